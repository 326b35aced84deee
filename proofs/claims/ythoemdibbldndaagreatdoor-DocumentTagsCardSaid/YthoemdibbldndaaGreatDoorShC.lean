/- The contract of the reference's field: what it gives is St.fieldL. -/
import Derived.Deep.QuietTactic
import Derived.BigQuiet
import Derived.LoopN
import Derived.Test.YthoemdibbldndaaGreatDoorRefUnit
import Derived.Test.YthoemdibbldndaaGreatDoorGH
import Derived.Test.YthoemdibbldndaaGreatDoorShB
set_option linter.all false
set_option maxHeartbeats 0
set_option maxRecDepth 20000
open Go.Value renaming int->UM,string->UN
open Go.IntKind renaming i64->US
open Go renaming World->UY
namespace Go.Proofs.YthoemdibbldndaaGreatDoor.Sh
open Go.RowKit Go.Proofs.YthoemdibbldndaaGreatDoor.St
section
theorem wa(d:ByteArray)(a:Nat)(w:UY)(ha:a<=d.size)(hd:d.size<=4611686018427387904):Calls Tryz.prog 143 #[UN d,UM US a] w (tX (d.1.1.drop a) a w):=by
 by_cases hlt:a<d.size
 ·have ax:=St.drop_at d a hlt
  by_cases gB:d[a].toNat=34
  ·have hF:=St.wR (r:=d.1.1.drop (a+1)) gB;rw[<-ax]at hF;have HF:=aa hF;have z1:(a:Int)<d.size:=by omega
   have Qw:((d[a].toNat:Int)==34)=true:=by simp;omega
   clear hF ax;go_enter Tryz.func143,Tryz.ntmps143;go_wp2;go_loopw [8] (λs4 wr=>Nz w d (a+1) s4 wr) (λs4 _=>d.size+1-(intOf s4).toNat)
   case atStart=>exact⟨a+1,congrArg (UM US) (by omega),by omega,by omega,by cases St.bC (d.1.1.drop (a+1))<;>simp,ac.refl _⟩
   case round=>
    obtain⟨j,rfl,qg,lM,hq,hu⟩:=hrel;have HQ:=aa hq;have HU:=aa hu;clear hq hu
    by_cases hjl:j<d.size
    ·have gr:=St.drop_at d j hjl;have z2:(j:Int)<d.size:=by omega
     by_cases nA:d[j].toNat=34
     ·have ON:((d[j].toNat:Int)==34)=true:=by simp;omega
      by_cases ia:j+1<d.size
      ·have oo:=St.drop_at d (j+1) ia;have z3:(j:Int)+1<d.size:=by omega
       by_cases yI:d[j+1].toNat=34
       ·have hs:=St.rk (r:=d.1.1.drop (j+1+1)) nA yI;rw[<-oo,<-gr]at hs;have HS:=aa hs;have OL:((d[j+1].toNat:Int)==34)=true:=by simp;omega
        clear hs gr oo HF;go_wp2;refine⟨⟨j+2,congrArg (UM US) (by omega),by omega,by omega,?_,HU.out⟩,by simp[intOf];omega⟩;rw[HQ.out,HS.out];cases St.bC (d.1.1.drop (j+1+1))with
        | none=>rfl
        | some n=>simp;omega
       have hs:=St.ri (r:=d.1.1.drop (j+1+1)) nA yI;rw[<-oo,<-gr]at hs;have HS:=aa hs;have OL:((d[j+1].toNat:Int)==34)=false:=by simp;omega
       have hq2:St.bC (d.1.1.drop (a+1))=some (j-a):=by rw[HQ.out,HS.out];simp;omega
       have hf2:=aa (EM HF.out hq2 qg);have eQ:St.ee (d.1.1.drop (j+1))=decide (d[j+1].toNat=44\/d[j+1].toNat=10):=by rw[oo];rfl
       have z4:(((j:Int)+1==(d.size:Int))=false):=by simp;omega
       have z5:¬(d.size:Int)<=(j:Int):=by omega
       clear hs gr oo Qw hlt gB HF HQ HS hq2;have HF:=hf2;clear hf2
       by_cases qk:d[j+1].toNat=44
       ·have vO:((d[j+1].toNat:Int)==44)=true:=by simp;omega
        have eP:=aa (show St.ee (d.1.1.drop (j+1))=true by rw[eQ];simp[qk]);clear eQ;go_wp2_with fail;go_quiet (fail);go_wp2;go_ret3;exact eO HF.out eP.out (by omega) uZ
       have vO:((d[j+1].toNat:Int)==44)=false:=by simp;omega
       by_cases k10:d[j+1].toNat=10
       ·have m10:((d[j+1].toNat:Int)==10)=true:=by simp;omega
        have eP:=aa (show St.ee (d.1.1.drop (j+1))=true by rw[eQ];simp[k10]);clear eQ;go_wp2_with fail;go_quiet (fail);go_wp2;go_ret3;exact eO HF.out eP.out (by omega) uZ
       have m10:((d[j+1].toNat:Int)==10)=false:=by simp;omega
       have eP:=aa (show St.ee (d.1.1.drop (j+1))=false by rw[eQ];simp[qk,k10]);clear eQ;go_wp2_with fail;go_quiet (fail);go_wp2;go_ret3;exact eO HF.out eP.out (by omega) uZ
      have qh:j+1=d.size:=by omega
      have hnil:=St.fD d (j+1) (by omega);have hs:=St.pQ nA;rw[hnil]at gr;rw[<-gr]at hs;have hq2:St.bC (d.1.1.drop (a+1))=some (j-a):=by rw[HQ.out,hs];simp;omega
      have hf2:=aa (EM HF.out hq2 qg);have eP:=aa (show St.ee (d.1.1.drop (j+1))=true by rw[hnil];rfl);have z3:¬(j:Int)+1<d.size:=by omega
      have z4:(((j:Int)+1==(d.size:Int))=true):=by simp;omega
      have z5:¬(d.size:Int)<=(j:Int):=by omega
      clear hs gr hnil Qw hlt gB HF HQ hq2 qh ia;have HF:=hf2;clear hf2;go_wp2_with fail;go_quiet (fail);go_wp2;go_ret3;exact eO HF.out eP.out (by omega) uZ
     have hs:=St.oH (r:=d.1.1.drop (j+1)) nA;rw[<-gr]at hs;have HS:=aa hs;have ON:((d[j].toNat:Int)==34)=false:=by simp;omega
     clear hs gr HF;go_wp2;refine⟨⟨j+1,congrArg (UM US) (by omega),by omega,by omega,?_,HU.out⟩,by simp[intOf];omega⟩;rw[HQ.out,HS.out];cases St.bC (d.1.1.drop (j+1))with
     | none=>rfl
     | some n=>simp;omega
    have qh:j=d.size:=by omega
    subst qh;have hnil:d.1.1.drop d.size=[]:=List.drop_of_length_le (by simp);have hq2:St.bC (d.1.1.drop (a+1))=none:=by rw[HQ.out,hnil];rfl
    have Nr:=aa hq2;clear hjl hq2 hnil;go_wp2;go_ret3;refine⟨HU.out,?_⟩;rw[HF.out,Nr.out];exact⟨_,_,rfl⟩
  have ND:((d[a].toNat:Int)==34)=false:=by simp;omega
  have u4:=aa (St.tu (l:=d.1.1.drop a) (λc r e=>by rw[ax]at e;simp only[List.cons.injEq]at e;rw[<-e.1];exact gB));have z1:(a:Int)<d.size:=by omega
  clear ax gB;go_enter Tryz.func143,Tryz.ntmps143;go_wp2;go_loopw [8] (λs4 wr=>Jb w d a s4 wr) (λs4 _=>d.size+1-(intOf s4).toNat)
  case atStart=>exact⟨a,rfl,by omega,by omega,by simp,ac.refl _⟩
  case round=>
   obtain⟨j,rfl,qg,lM,hq,hu⟩:=hrel;have HQ:=aa hq;have HU:=aa hu;clear hq hu
   by_cases hjl:j<d.size
   ·have gr:=St.drop_at d j hjl;have z2:(j:Int)<d.size:=by omega
    cases hbc:St.fc d[j]
    ·have eR:(d.1.1.drop j).takeWhile St.fc=[]:=by rw[gr,List.takeWhile_cons_of_neg (by simp[hbc])]
     have hlen:((d.1.1.drop a).takeWhile St.fc).length=j-a:=by rw[HQ.out,eR];simp
     have hf2:=u4.out;rw[hlen,List.drop_drop,show a+(j-a)=j by omega]at hf2;have HF:=aa hf2;have eQ:St.ee (d.1.1.drop j)=decide (d[j].toNat=44\/d[j].toNat=10):=by rw[gr];rfl
     have z4:(((j:Int)==(d.size:Int))=false):=by simp;omega
     have hb3:d[j].toNat=34\/d[j].toNat=44\/d[j].toNat=10:=by
      unfold St.fc at hbc;have:=of_decide_eq_false hbc
      omega
     clear hf2 hlen eR gr hbc HQ u4
     by_cases Uz:d[j].toNat=34
     ·have Q5:((d[j].toNat:Int)==34)=true:=by simp;omega
      have qk:d[j].toNat≠44:=by omega
      have k10:d[j].toNat≠10:=by omega
      have vO:((d[j].toNat:Int)==44)=false:=by simp;omega
      have m10:((d[j].toNat:Int)==10)=false:=by simp;omega
      have eP:=aa (show St.ee (d.1.1.drop (j))=false by rw[eQ];simp[qk,k10]);clear eQ hb3 qk k10;go_wp2_with fail;go_quiet (fail);go_wp2;go_ret3;exact eO HF.out eP.out (by omega) uZ
     have Q5:((d[j].toNat:Int)==34)=false:=by simp;omega
     by_cases qk:d[j].toNat=44
     ·have vO:((d[j].toNat:Int)==44)=true:=by simp;omega
      have eP:=aa (show St.ee (d.1.1.drop (j))=true by rw[eQ];simp[qk]);clear eQ;go_wp2_with fail;go_quiet (fail);go_wp2;go_ret3;exact eO HF.out eP.out (by omega) uZ
     have vO:((d[j].toNat:Int)==44)=false:=by simp;omega
     by_cases k10:d[j].toNat=10
     ·have m10:((d[j].toNat:Int)==10)=true:=by simp;omega
      have eP:=aa (show St.ee (d.1.1.drop (j))=true by rw[eQ];simp[k10]);clear eQ;go_wp2_with fail;go_quiet (fail);go_wp2;go_ret3;exact eO HF.out eP.out (by omega) uZ
     exact absurd hb3 (by omega)
    have hb3:d[j].toNat≠34/\d[j].toNat≠44/\d[j].toNat≠10:=by
     unfold St.fc at hbc;exact of_decide_eq_true hbc
    have Q5:((d[j].toNat:Int)==34)=false:=by simp;omega
    have vO:((d[j].toNat:Int)==44)=false:=by simp;omega
    have m10:((d[j].toNat:Int)==10)=false:=by simp;omega
    have UE:((d[j].toNat:Int) != 34)=true:=by simp;omega
    have UF:((d[j].toNat:Int) != 44)=true:=by simp;omega
    have n10:((d[j].toNat:Int) != 10)=true:=by simp;omega
    have eR:((d.1.1.drop j).takeWhile St.fc).length=1+((d.1.1.drop (j+1)).takeWhile St.fc).length:=by
     rw[gr,List.takeWhile_cons_of_pos hbc];simp;omega
    have Gn:=aa eR;clear eR gr hbc hb3;go_wp2;refine⟨⟨j+1,congrArg (UM US) (by omega),by omega,by omega,?_,HU.out⟩,by simp[intOf];omega⟩;rw[HQ.out,Gn.out];omega
   have qh:j=d.size:=by omega
   subst qh;have hnil:d.1.1.drop d.size=[]:=List.drop_of_length_le (by simp);have hlen:((d.1.1.drop a).takeWhile St.fc).length=d.size-a:=by rw[HQ.out,hnil];simp
   have hf2:=u4.out;rw[hlen,List.drop_drop,show a+(d.size-a)=d.size by omega]at hf2;have HF:=aa hf2;have eP:=aa (show St.ee (d.1.1.drop d.size)=true by rw[hnil];rfl);clear hf2 hlen hnil HQ u4;go_wp2_with fail;go_quiet (fail);go_wp2;go_ret3;exact eO HF.out eP.out (by omega) uZ
 have He:a=d.size:=by omega
 subst He;have hnil:d.1.1.drop d.size=[]:=List.drop_of_length_le (by simp);rw[hnil];go_enter Tryz.func143,Tryz.ntmps143;go_wp2;refine wp_loop_rounds 1 ?_;rw[rounds_succ];go_wp2_with fail;go_quiet (fail);go_wp2;go_ret3;exact⟨uZ,by rw[St.x6];simp⟩
end
section
namespace St
variable {dE:List UInt8->Nat × Int} {dig:Nat->List UInt8} {d:List UInt8} {W C:Nat}
theorem rn{fuel a r e n:Nat}{s s':PS}(h:¬d.length<=a)(hr:dm dE d W C (dig r) (d.length+1) a 0 s=.ok (e,n,s'))(hn:¬n<W):cw dE dig d W C (fuel+1) a r s=cw dE dig d W C fuel (e+1) (r+1) s':=by
 rw[cw,if_neg h,hr];simp only[];rw[if_neg hn]
theorem py{e n tx c:Nat}(h0:¬65536<d.length)(h:eT d (d.length+1) 0 0 0 0=.ok (e,n,tx,c))(ht:tx≠0)(ht2:¬1<tx):eB dE dig d=pI d (cw dE dig d n c (d.length+1) (e+1) 1 ([],0)):=by
 rw[eB,if_neg h0,h];simp only[];rw[if_neg ht,if_neg ht2];cases cw dE dig d n c (d.length+1) (e+1) 1 ([],0)<;>rfl
end St
theorem pA(n:Nat)(w:UY)(hn:n<=4611686018427387904):Calls Tryz.prog 134 #[UM US n] w λe w'=>e=.returned (UN ⟨(Lib.decDigits n).toArray⟩)/\ac w w':=by
 have h0:¬(n:Int)<0:=by omega
 go_enter Tryz.func134,Tryz.ntmps134;go_wp2_with (go_at_call 176;refine(pG n _ hn).mono ?_;rintro e w' ⟨rfl,X,rfl⟩);go_ret;exact⟨rfl,uZ⟩
theorem CL(x:ByteArray)(w:UY)(hx:x.size<=4611686018427387904):Calls Tryz.prog 63 #[UM US 3,UN x] w λe w'=>∃v1 v2,e=.returned (.tuple #[v1,v2,UM US ((dE x.1.1).1:Nat),UM US (dE x.1.1).2])/\ac w w':=by
 refine(kz 3 St.ci Cd Ce x w hx).mono ?_;rintro e w' ⟨v1,v2,rfl,_,_,hu⟩;rw[kE];exact⟨v1,v2,rfl,hu⟩
noncomputable def tO(d:ByteArray)(s6 s9:Value):Nat:=if intOf s9=0 then d.size+3 else d.size+2-(intOf s6).toNat
theorem jR(d:ByteArray)(s6:Value):tO d s6 (UM US 0)=d.size+3:=by unfold tO;rw[if_pos (by simp[intOf])]
theorem j9(d:ByteArray)(r:Nat)(s6:Value)(hr:1<=r):tO d s6 (UM US r)=d.size+2-(intOf s6).toNat:=by
 unfold tO;rw[if_neg];intro e;simp[intOf]at e;omega
theorem tA(d:ByteArray)(a:Nat):tO d (UM US a) (UM US 1)=d.size+2-a:=j9 d 1 _ (by omega)
def PH(w:UY)(d:ByteArray)(s6 s7 s8 s9:Value)(wr:UY):Prop:=
 ac w wr/\((s6=UM US 0/\s7=UM US 0/\s8=UM US (-1)/\s9=UM US 0/\RV wr w.1.size w.1.size d ([],0))\/
  ∃(a r bd aw fuel:Nat) (s:St.PS),s6=UM US a/\s7=UM US bd/\s8=UM US aw/\s9=UM US r/\a<=d.size+1/\1<=r/\r<=a+1/\bd<=100000/\aw<=100000/\d.size-a<fuel/\s.2<=a/\s.2<=d.size/\s.1.length<=2*a /\
   RV wr w.1.size w.1.size d s/\fz d=St.pI d.1.1 (St.cw dE Lib.decDigits d.1.1 bd aw fuel a r s))
def Ep(w:UY)(d:ByteArray)(s6 s8 gi s12:Value)(wr:UY):Prop:=
 ∃(a n tx aw fuel:Nat) (c:Int),s6=UM US a/\s8=UM US c/\gi=UM US n/\s12=UM US tx/\a<=d.size/\n<=a/\tx<=n/\(0<tx->c=aw)/\aw<=n/\d.size+1-a<=fuel /\
  St.eT d.1.1 (d.1.1.length+1) 0 0 0 0=St.eT d.1.1 fuel a n tx aw/\RV wr w.1.size w.1.size d ([],0)/\ac w wr
def PL(w:UY)(d:ByteArray)(r bd aw a0:Nat)(s:St.PS)(s6 s8 gi:Value)(wr:UY):Prop:=
 ∃(a n fuel:Nat) (s1:St.PS),s6=UM US a/\s8=UM US aw/\gi=UM US n/\a0<=a/\a<=d.size/\n<=a/\d.size+1-a<=fuel /\
  St.dm dE d.1.1 bd aw (Lib.decDigits r) (d.1.1.length+1) a0 0 s=St.dm dE d.1.1 bd aw (Lib.decDigits r) fuel a n s1/\RV wr w.1.size w.1.size d s1/\s1.2<=a/\s1.2<=d.size/\s1.1.length<=2*a/\ac w wr
theorem wg(d:ByteArray)(w:UY)(hd:d.size<=65536):Calls Tryz.prog 103 #[UN d] w (aF (fz d) w):=by
 have HLEN:=aa (St.aC d);have nk:=aa (show ¬65536<d.1.1.length by rw[St.aC];omega);have va:=aa (show RV (w.alloc (.cells #[UN d,.slice none 0 0,UM US 0] 191)) w.1.size w.1.size d ([],0)from⟨Nat.le_refl _,_,heap_alloc_new w _,World.ownsRow_nil _ _ _ _⟩);go_enter Tryz.func103,Tryz.ntmps103;go_wp2;go_loopw [6,7,8,9] (λs6 s7 s8 s9 wr=>PH w d s6 s7 s8 s9 wr) (λs6 _ _ s9 _=>tO d s6 s9)
 case atStart=>exact⟨uZ,.inl ⟨rfl,rfl,rfl,rfl,va.out⟩⟩
 case round=>
  obtain⟨hu,hrel⟩:=hrel;clear va;have HU:=aa hu;clear hu;rcases hrel with⟨rfl,rfl,rfl,rfl,lE⟩|⟨a0,r,bd,aw,qO,s,rfl,rfl,rfl,rfl,ha0,hr1,hr2,hc1,hc2,hfu,hs1,hs1',hs2,lE,hS⟩
  ·have va:=aa lE;clear lE;obtain⟨wo,rfl⟩:∃wo:UY,wo=wr:=⟨_,rfl⟩;go_wp2_with fail;go_loopw [6,8,11,12] (λs6 s8 gi s12 wr=>Ep w d s6 s8 gi s12 wr) (λs6 _ _ _ _=>d.size+1-(intOf s6).toNat)
   case atStart=>exact⟨0,0,0,0,d.1.1.length+1,-1,rfl,rfl,rfl,rfl,by omega,by omega,by omega,by omega,by omega,by simp,rfl,va.out,HU.out⟩
   case round=>
    clear va HU;obtain⟨a,n,tx,aw,fuel,c,rfl,rfl,rfl,rfl,ha,vE,htx,hcT,hcol,hfu,hH,lE,hu⟩:=hrel;obtain⟨fuel,rfl⟩:∃m,fuel=m+1:=⟨fuel-1,by omega⟩;have HH:=aa hH;have HR:=aa lE;have HU:=aa hu;have HF:=aa (wa d a wr ha (by omega));clear hH lE hu;go_wp2_with fail;refine HF.out.mono ?_;rintro e w2 ⟨hu2,hm⟩;have k7:=aa (HR.out.ai hu2);have aZ:=aa (HU.out.trans hu2);clear HR HU HF hu2;cases hs:St.cW (d.1.1.drop a)with
    | none=>
     rw[hs]at hm;obtain⟨x,y,rfl⟩:=hm;have hR:=aa (St.sX (dE:=dE) (dig:=Lib.decDigits) nk.out (HH.out.trans (St.su hs)));clear hs HH;go_wp2;go_ret3;exact aF.err hR.out aZ.out
    | some x=>
     obtain⟨k,q⟩:=x;rw[hs]at hm;simp only at hm;subst hm;obtain⟨hk1,_⟩:=St.mP hs;have hk2:a+k<=d.size:=by simp at hk1;omega
     have hh:=HH.out.trans (St.mR hs);have AX:a<=a+k:=by omega
     rw[<-eJ]at hh;generalize hm:a+k=m at hk2 hh AX |-;obtain⟨t,ht⟩:∃t,d.extract a m=t:=⟨_,rfl⟩;rw[ht]at hh;have w1:(0:Int)<=a:=by omega
     have w2':(a:Int)<=m:=by omega
     have w3:(m:Int)<=d.size:=by omega
     by_cases hs:t=pu
     ·subst hs;unfold pu at ht;have hif:((pu.1.1==[116,101,120,116])=true):=rfl;simp only[hif,if_true]at hh;have dN:=aa hh;clear hh HH hk1 hif;rcases Nat.lt_or_ge m d.size with fj|fj
      ·have ax:=St.drop_at d m fj;have y1:¬(d.size:Int)<=(m:Int):=by omega
       have y3:(m:Int)<d.size:=by omega
       by_cases bB:d[m].toNat=10
       ·have y2:((d[m].toNat:Int)==10)=true:=by simp;omega
        have bQ:=dN.out;rw[ax]at bQ;simp only[bB,if_true]at bQ;have de:=aa bQ;clear bQ ax
        by_cases q0:tx=0
        ·subst q0;clear hcT;have hR:=aa (St.py (dE:=dE) (dig:=Lib.decDigits) nk.out de.out (by decide) (by decide));clear de dN;go_wp2;refine⟨⟨aZ.out,.inr ⟨m+1,1,n+1,n,d.size+1,([],0),congrArg (UM US) (by omega),congrArg (UM US) (by omega),rfl,rfl,by omega,by omega,by omega,by omega,by omega,by omega,by simp,by simp,by simp,k7.out,by unfold fz;rw[hR.out,HLEN.out]⟩⟩,?_⟩
         first|(have:=tA d (m+1);simp only[jR];simp only[Int.natCast_add,Int.cast_ofNat_Int]at this |-;omega)|(rw[jR];unfold tO intOf;simp;omega)
        have y5:(((tx:Int)+1==0)=false):=by simp;omega
        have y6:(1:Int)<(tx:Int)+1:=by omega
        have hR:=aa (St.kf (dE:=dE) (dig:=Lib.decDigits) nk.out de.out (by omega) (by omega));go_wp2;go_ret3;exact aF.err hR.out aZ.out
       have y2:((d[m].toNat:Int)==10)=false:=by simp;omega
       have bQ:=dN.out;rw[ax]at bQ;simp only[bB,if_false]at bQ;have de:=aa bQ;clear bQ ax;go_wp2;refine⟨⟨m+1,n+1,tx+1,n,fuel,n,congrArg (UM US) (by omega),rfl,congrArg (UM US) (by omega),congrArg (UM US) (by omega),by omega,by omega,by omega,λ_=>rfl,by omega,by omega,de.out,k7.out,aZ.out⟩,by simp[intOf];omega⟩
      have hme:m=d.size:=by omega
      subst hme;have hnil:=St.fD d d.size (by omega);have y1:(d.size:Int)<=(d.size:Int):=by omega
      have bQ:=dN.out;rw[hnil]at bQ;simp only[]at bQ;have de:=aa bQ;clear bQ hnil
      by_cases q0:tx=0
      ·subst q0;clear hcT;have hR:=aa (St.py (dE:=dE) (dig:=Lib.decDigits) nk.out de.out (by decide) (by decide));clear de dN;go_wp2;refine⟨⟨aZ.out,.inr ⟨d.size+1,1,n+1,n,d.size+1,([],0),congrArg (UM US) (by omega),congrArg (UM US) (by omega),rfl,rfl,by omega,by omega,by omega,by omega,by omega,by omega,by simp,by simp,by simp,k7.out,by unfold fz;rw[hR.out,HLEN.out]⟩⟩,?_⟩
       first|(have:=tA d (d.size+1);simp only[jR];simp only[Int.natCast_add,Int.cast_ofNat_Int]at this |-;omega)|(rw[jR];unfold tO intOf;simp;omega)
      have y5:(((tx:Int)+1==0)=false):=by simp;omega
      have y6:(1:Int)<(tx:Int)+1:=by omega
      have hR:=aa (St.kf (dE:=dE) (dig:=Lib.decDigits) nk.out de.out (by omega) (by omega));go_wp2;go_ret3;exact aF.err hR.out aZ.out
     have hif:(t.1.1==[116,101,120,116])=false:=by
      refine Bool.eq_false_iff.2 λe=>?_
      exact hs (sd _ _ (show t.1.1=pu.1.1 from eq_of_beq e))
     have hne:(t.toList==[116,101,120,116])=false:=by rw[Lib.toList_data];exact hif
     simp only[hif,Bool.false_eq_true,if_false]at hh;have dN:=aa hh;clear hh HH hk1 hif hs;rcases Nat.lt_or_ge m d.size with fj|fj
     ·have ax:=St.drop_at d m fj;have y1:¬(d.size:Int)<=(m:Int):=by omega
      have y3:(m:Int)<d.size:=by omega
      by_cases bB:d[m].toNat=10
      ·have y2:((d[m].toNat:Int)==10)=true:=by simp;omega
       have bQ:=dN.out;rw[ax]at bQ;simp only[bB,if_true]at bQ;have de:=aa bQ;clear bQ ax;rcases(show tx=0\/tx=1\/1<tx by omega)with q0|q1|q2
       ·subst q0;have hR:=aa (St.nO (dE:=dE) (dig:=Lib.decDigits) nk.out de.out rfl);go_wp2;go_ret3;exact aF.err hR.out aZ.out
       ·subst q1;have hcc:=hcT (by omega);subst hcc;clear hcT;have hR:=aa (St.py (dE:=dE) (dig:=Lib.decDigits) nk.out de.out (by decide) (by decide));clear de dN;go_wp2;refine⟨⟨aZ.out,.inr ⟨m+1,1,n+1,aw,d.size+1,([],0),congrArg (UM US) (by omega),congrArg (UM US) (by omega),rfl,rfl,by omega,by omega,by omega,by omega,by omega,by omega,by simp,by simp,by simp,k7.out,by unfold fz;rw[hR.out,HLEN.out]⟩⟩,?_⟩
        first|(have:=tA d (m+1);simp only[jR];simp only[Int.natCast_add,Int.cast_ofNat_Int]at this |-;omega)|(rw[jR];unfold tO intOf;simp;omega)
       have y5:(((tx:Int)==0)=false):=by simp;omega
       have y6:(1:Int)<(tx:Int):=by omega
       have hR:=aa (St.kf (dE:=dE) (dig:=Lib.decDigits) nk.out de.out (by omega) (by omega));go_wp2;go_ret3;exact aF.err hR.out aZ.out
      have y2:((d[m].toNat:Int)==10)=false:=by simp;omega
      have bQ:=dN.out;rw[ax]at bQ;simp only[bB,if_false]at bQ;have de:=aa bQ;clear bQ ax;go_wp2;refine⟨⟨m+1,n+1,tx,aw,fuel,c,congrArg (UM US) (by omega),rfl,congrArg (UM US) (by omega),congrArg (UM US) (by omega),by omega,by omega,by omega,hcT,by omega,by omega,de.out,k7.out,aZ.out⟩,by simp[intOf];omega⟩
     have hme:m=d.size:=by omega
     subst hme;have hnil:=St.fD d d.size (by omega);have y1:(d.size:Int)<=(d.size:Int):=by omega
     have bQ:=dN.out;rw[hnil]at bQ;simp only[]at bQ;have de:=aa bQ;clear bQ hnil;rcases(show tx=0\/tx=1\/1<tx by omega)with q0|q1|q2
     ·subst q0;have hR:=aa (St.nO (dE:=dE) (dig:=Lib.decDigits) nk.out de.out rfl);go_wp2;go_ret3;exact aF.err hR.out aZ.out
     ·subst q1;have hcc:=hcT (by omega);subst hcc;clear hcT;have hR:=aa (St.py (dE:=dE) (dig:=Lib.decDigits) nk.out de.out (by decide) (by decide));clear de dN;go_wp2;refine⟨⟨aZ.out,.inr ⟨d.size+1,1,n+1,aw,d.size+1,([],0),congrArg (UM US) (by omega),congrArg (UM US) (by omega),rfl,rfl,by omega,by omega,by omega,by omega,by omega,by omega,by simp,by simp,by simp,k7.out,by unfold fz;rw[hR.out,HLEN.out]⟩⟩,?_⟩
      first|(have:=tA d (d.size+1);simp only[jR];simp only[Int.natCast_add,Int.cast_ofNat_Int]at this |-;omega)|(rw[jR];unfold tO intOf;simp;omega)
     have y5:(((tx:Int)==0)=false):=by simp;omega
     have y6:(1:Int)<(tx:Int):=by omega
     have hR:=aa (St.kf (dE:=dE) (dig:=Lib.decDigits) nk.out de.out (by omega) (by omega));go_wp2;go_ret3;exact aF.err hR.out aZ.out
  have r0:((r:Int)==0)=false:=by simp;omega
  have r1:(0:Int)<(r:Int):=by omega
  have va:=aa lE;have HS:=aa hS;clear lE hS
  by_cases hlt:a0<d.size
  ·have z:(a0:Int)<d.size:=by omega
   have ef:=aa (show ¬d.1.1.length<=a0 by rw[HLEN.out];omega);obtain⟨qO,rfl⟩:∃m,qO=m+1:=⟨qO-1,by omega⟩;obtain⟨wo,rfl⟩:∃wo:UY,wo=wr:=⟨_,rfl⟩;go_wp2_with fail;go_loopw [6,8,11] (λs6 s8 gi wr=>PL w d r bd aw a0 s s6 s8 gi wr) (λs6 _ _ _=>d.size+1-(intOf s6).toNat)
   case atStart=>exact⟨a0,0,d.1.1.length+1,s,rfl,rfl,rfl,by omega,by omega,by omega,by simp<;>omega,rfl,va.out,by omega,by omega,by omega,HU.out⟩
   case round=>
    clear va HU;obtain⟨a,n,fuel,s1,rfl,rfl,rfl,haa,ha,vE,hfu2,hH,lE,hs3,hs3',hs4,hu⟩:=hrel;obtain⟨fuel,rfl⟩:∃m,fuel=m+1:=⟨fuel-1,by omega⟩;have HH:=aa hH;have HR:=aa lE;have HU:=aa hu;have HF:=aa (wa d a wr ha (by omega));clear hH lE hu;go_wp2_with fail;refine HF.out.mono ?_;rintro e w2 ⟨hu2,hm⟩;have k7:=aa (HR.out.ai hu2);have aZ:=aa (HU.out.trans hu2);clear HR HU HF hu2;cases hs:St.cW (d.1.1.drop a)with
    | none=>
     rw[hs]at hm;obtain⟨x,y,rfl⟩:=hm;have hR:=aa (HS.out.trans (congrArg _ (St.mw ef.out (HH.out.trans (St.rl hs)))));clear hs HH;go_wp2;go_ret3;exact aF.err hR.out aZ.out
    | some x=>
     obtain⟨k,q⟩:=x;rw[hs]at hm;simp only at hm;subst hm;obtain⟨hk1,hkq⟩:=St.mP hs;have hk2:a+k<=d.size:=by simp at hk1;omega
     have hb1:=λhb=>HS.out.trans (congrArg _ (St.mw ef.out (HH.out.trans (St.tD (dE:=dE) (key:=Lib.decDigits r) (fuel:=fuel) (s:=s1) hs (W:=bd) (n:=n) (C:=aw) hb))))
     have hb2:=λhb he=>HS.out.trans (congrArg _ (St.mw ef.out (HH.out.trans (St.tE (dE:=dE) (key:=Lib.decDigits r) (fuel:=fuel) (s:=s1) hs (W:=bd) (n:=n) (C:=aw) hb he))))
     have hb3:=λhb he=>HH.out.trans (St.rm (dE:=dE) (key:=Lib.decDigits r) (fuel:=fuel) (s:=s1) hs (W:=bd) (n:=n) (C:=aw) hb he)
     have AX:a<=a+k:=by omega
     have LG:q=true->a+2<=a+k:=λh=>by have:=hkq h;omega
     generalize hm:a+k=m at hk2 hb1 hb2 hb3 AX LG |-;have oN:=aa hb1;have CZ:=aa hb2;have tI:=aa hb3;clear hb1 hb2 hb3 hs HH hk1 hkq
     by_cases hw:bd<=n
     ·have v1:(bd:Int)<=(n:Int):=by omega
      have hR:=aa (oN.out (.inl hw));go_wp2;go_ret3;exact aF.err hR.out aZ.out
     have v1:¬(bd:Int)<=(n:Int):=by omega
     by_cases hnc:n=aw
     ·subst hnc;have v2:((n:Int)==(n:Int))=true:=beq_self_eq_true _;cases q
      ·have hR:=aa (oN.out (.inr ⟨rfl,rfl⟩));go_wp2;go_ret3;exact aF.err hR.out aZ.out
      have hm2:=LG rfl;obtain⟨x,hx⟩:∃x,d.extract (a+1) (m-1)=x:=⟨_,rfl⟩;have hxs:x.size<=d.size:=by rw[<-hx];simp;omega
      have hxl:x.1.1=St.aY d.1.1 (a+1) (m-1):=by rw[<-hx,eJ]
      have ey:=CL x;have rP:(dE x.1.1).1<=x.size:=by rw[kE];exact yV x
      rw[hxl]at ey rP;have hb2:=CZ.out (by simp;omega);have hb3:=tI.out (by simp;omega);rw[if_pos rfl]at hb3;generalize dE (St.aY d.1.1 (a+1) (m-1))=ev at ey rP hb2 hb3;obtain⟨ei,er⟩:=ev;simp only at ey rP hb2 hb3;have iM:=aa ey;have uY:=aa hb2;have K8:=aa hb3;have w1:(0:Int)<=(a:Int)+1:=by omega
      have w2':(a:Int)+1<=(m:Int)-1:=by omega
      have w3:(m:Int)-1<=d.size:=by omega
      have w4:((a:Int)+1).toNat=a+1:=by omega
      have w5:((m:Int)-1).toNat=m-1:=by omega
      clear ey hb2 hb3 hxl oN CZ tI;go_wp2_with fail;refine(iM.out _ (by omega)).mono ?_;rintro e UI ⟨UH,v2',rfl,hu3⟩;have Ji:=aa (k7.out.ai hu3);have Jk:=aa (aZ.out.trans hu3);clear k7 aZ hu3 iM
      by_cases her:er=0
      ·subst her;have dN:=aa (K8.out (λh=>h.2 rfl));have hun:=λW (lE:RV W w.1.size w.1.size d s1) (hs:w.1.size<=W.1.size)=>pt W w.1.size w.1.size d ⟨(Lib.decDigits r).toArray⟩ s1 (a+1) (m-1) lE (by omega) (by omega) (by omega) (by omega) (by omega) hs
       rw[show((a+1:Nat):Int)=(a:Int)+1 by omega,show((m-1:Nat):Int)=(m:Int)-1 by omega]at hun;have ir:=aa hun;clear hun;clear uY K8;go_wp2_with fail;refine(pA r _ (by omega)).mono ?_;rintro e UJ ⟨rfl,a6⟩;have Qo:=aa (Ji.out.ai a6);have fE:=aa (Jk.out.trans a6);clear Ji Jk a6;go_wp2_with fail;refine(ir.out _ Qo.out fE.out.size).mono ?_;rintro e Ra ⟨rfl,hRV5,hbl,_⟩;have bo:ac w Ra:=ac.cn (Below.trans fE.out.below hbl);have EV:RV Ra w.1.size w.1.size d (St.bg d.1.1 s1 (a+1) (m-1) (Lib.decDigits r)):=by simpa using hRV5
       have hs5:(St.bg d.1.1 s1 (a+1) (m-1) (Lib.decDigits r)).2<=m:=by show m-1<=m;omega
       have LL:(St.bg d.1.1 s1 (a+1) (m-1) (Lib.decDigits r)).1.length<=2*(a+1):=by show(s1.1++[_,_]).length<=_;simp;omega
       generalize St.bg d.1.1 s1 (a+1) (m-1) (Lib.decDigits r)=s2 at dN EV hs5 LL;have Ae:=aa EV;have bm:=aa bo;clear hRV5 EV bo hbl Qo fE ir;rcases Nat.lt_or_ge m d.size with fj|fj
       ·have ax:=St.drop_at d m fj;have y1:¬(d.size:Int)<=(m:Int):=by omega
        have y3:(m:Int)<d.size:=by omega
        by_cases bB:d[m].toNat=10
        ·have y2:((d[m].toNat:Int)==10)=true:=by simp;omega
         have bQ:=dN.out;rw[ax]at bQ;simp only[bB,if_true]at bQ;have de:=aa bQ;clear bQ ax
         by_cases hw:n+1<bd
         ·have hw':(n:Int)+1<(bd:Int):=by omega
          have hR:=aa ((HS.out).trans (congrArg _ (St.kX ef.out de.out hw)));go_wp2;go_ret3;exact aF.err hR.out bm.out
         have hw':¬(n:Int)+1<(bd:Int):=by omega
         have hR:=aa ((HS.out).trans (congrArg _ (St.rn ef.out de.out hw)));clear de dN;go_wp2;refine⟨⟨bm.out,.inr ⟨m+1,r+1,bd,_,qO,s2,congrArg (UM US) (by omega),rfl,rfl,congrArg (UM US) (by omega),by omega,by omega,by omega,by omega,by omega,by omega,by omega,by omega,by omega,Ae.out,hR.out⟩⟩,?_⟩;have o1:=j9 d r (UM US a0) hr1;have o2:=j9 d (r+1) (UM US ((m+1:Nat):Int)) (by omega);simp only[Int.natCast_add,Int.cast_ofNat_Int]at o1 o2 |-;rw[o1,o2];simp[intOf];omega
        have y2:((d[m].toNat:Int)==10)=false:=by simp;omega
        have bQ:=dN.out;rw[ax]at bQ;simp only[bB,if_false]at bQ;have de:=aa bQ;clear bQ ax;go_wp2;refine⟨⟨m+1,n+1,fuel,s2,congrArg (UM US) (by omega),rfl,congrArg (UM US) (by omega),by omega,by omega,by omega,by omega,de.out,Ae.out,by omega,by omega,by omega,bm.out⟩,by simp[intOf];omega⟩
       have hme:m=d.size:=by omega
       subst hme;have hnil:=St.fD d d.size (by omega);have y1:(d.size:Int)<=(d.size:Int):=by omega
       have bQ:=dN.out;rw[hnil]at bQ;simp only[]at bQ;have de:=aa bQ;clear bQ hnil
       by_cases hw:n+1<bd
       ·have hw':(n:Int)+1<(bd:Int):=by omega
        have hR:=aa ((HS.out).trans (congrArg _ (St.kX ef.out de.out hw)));go_wp2;go_ret3;exact aF.err hR.out bm.out
       have hw':¬(n:Int)+1<(bd:Int):=by omega
       have hR:=aa ((HS.out).trans (congrArg _ (St.rn ef.out de.out hw)));clear de dN;go_wp2;refine⟨⟨bm.out,.inr ⟨d.size+1,r+1,bd,_,qO,s2,congrArg (UM US) (by omega),rfl,rfl,congrArg (UM US) (by omega),by omega,by omega,by omega,by omega,by omega,by omega,by omega,by omega,by omega,Ae.out,hR.out⟩⟩,?_⟩;have o1:=j9 d r (UM US a0) hr1;have o2:=j9 d (r+1) (UM US ((d.size+1:Nat):Int)) (by omega);simp only[Int.natCast_add,Int.cast_ofNat_Int]at o1 o2 |-;rw[o1,o2];simp[intOf];omega
      have TX:(er==0)=false:=by simpa using her
      have hR:=aa (uY.out ⟨trivial,her⟩);clear uY K8 Ji;go_wp2;go_ret3;have RX:(a:Int)+1+(ei:Int)=((a+1+ei:Nat):Int):=by omega
      try rw[RX]
      exact aF.err hR.out Jk.out
     have v2:((n:Int)==(aw:Int))=false:=by simp;omega
     have hh:=tI.out (by omega) (by omega);rw[if_neg hnc]at hh;have dN:=aa hh;obtain⟨s2,hs2e⟩:∃s2,s2=s1:=⟨_,rfl⟩;rw[<-hs2e]at dN hs3 hs3' hs4 k7;have Ae:=aa k7.out;have bm:=aa aZ.out;have hs5:s2.2<=m:=by omega
     have LL:s2.1.length<=2*(a+1):=by omega
     clear hh k7 aZ oN CZ tI hs2e;rcases Nat.lt_or_ge m d.size with fj|fj
     ·have ax:=St.drop_at d m fj;have y1:¬(d.size:Int)<=(m:Int):=by omega
      have y3:(m:Int)<d.size:=by omega
      by_cases bB:d[m].toNat=10
      ·have y2:((d[m].toNat:Int)==10)=true:=by simp;omega
       have bQ:=dN.out;rw[ax]at bQ;simp only[bB,if_true]at bQ;have de:=aa bQ;clear bQ ax
       by_cases hw:n+1<bd
       ·have hw':(n:Int)+1<(bd:Int):=by omega
        have hR:=aa ((HS.out).trans (congrArg _ (St.kX ef.out de.out hw)));go_wp2;go_ret3;exact aF.err hR.out bm.out
       have hw':¬(n:Int)+1<(bd:Int):=by omega
       have hR:=aa ((HS.out).trans (congrArg _ (St.rn ef.out de.out hw)));clear de dN;go_wp2;refine⟨⟨bm.out,.inr ⟨m+1,r+1,bd,_,qO,s2,congrArg (UM US) (by omega),rfl,rfl,congrArg (UM US) (by omega),by omega,by omega,by omega,by omega,by omega,by omega,by omega,by omega,by omega,Ae.out,hR.out⟩⟩,?_⟩;have o1:=j9 d r (UM US a0) hr1;have o2:=j9 d (r+1) (UM US ((m+1:Nat):Int)) (by omega);simp only[Int.natCast_add,Int.cast_ofNat_Int]at o1 o2 |-;rw[o1,o2];simp[intOf];omega
      have y2:((d[m].toNat:Int)==10)=false:=by simp;omega
      have bQ:=dN.out;rw[ax]at bQ;simp only[bB,if_false]at bQ;have de:=aa bQ;clear bQ ax;go_wp2;refine⟨⟨m+1,n+1,fuel,s2,congrArg (UM US) (by omega),rfl,congrArg (UM US) (by omega),by omega,by omega,by omega,by omega,de.out,Ae.out,by omega,by omega,by omega,bm.out⟩,by simp[intOf];omega⟩
     have hme:m=d.size:=by omega
     subst hme;have hnil:=St.fD d d.size (by omega);have y1:(d.size:Int)<=(d.size:Int):=by omega
     have bQ:=dN.out;rw[hnil]at bQ;simp only[]at bQ;have de:=aa bQ;clear bQ hnil
     by_cases hw:n+1<bd
     ·have hw':(n:Int)+1<(bd:Int):=by omega
      have hR:=aa ((HS.out).trans (congrArg _ (St.kX ef.out de.out hw)));go_wp2;go_ret3;exact aF.err hR.out bm.out
     have hw':¬(n:Int)+1<(bd:Int):=by omega
     have hR:=aa ((HS.out).trans (congrArg _ (St.rn ef.out de.out hw)));clear de dN;go_wp2;refine⟨⟨bm.out,.inr ⟨d.size+1,r+1,bd,_,qO,s2,congrArg (UM US) (by omega),rfl,rfl,congrArg (UM US) (by omega),by omega,by omega,by omega,by omega,by omega,by omega,by omega,by omega,by omega,Ae.out,hR.out⟩⟩,?_⟩;have o1:=j9 d r (UM US a0) hr1;have o2:=j9 d (r+1) (UM US ((d.size+1:Nat):Int)) (by omega);simp only[Int.natCast_add,Int.cast_ofNat_Int]at o1 o2 |-;rw[o1,o2];simp[intOf];omega
  have z:¬(a0:Int)<d.size:=by omega
  have hR:=HS.out;rw[St.mv _ _ _ _ (by rw[HLEN.out];omega)]at hR;have HR:=aa hR;clear hR HS;go_wp2_with fail;refine(uM _ w.1.size w.1.size d s va.out (by omega) (by omega) (by omega) HU.out.size).mono ?_;rintro e w3 ⟨A,c,rfl,hp,h1,h2,hbl⟩;have hu3:ac w w3:=ac.cn (Below.trans HU.out.below hbl);have HE:=aa (And.intro hp hu3);clear hp hu3 hbl;go_wp2;go_ret3;unfold aF;rw[HR.out];have hq1:=aa h1;clear h1;exact⟨A,c,by simp[St.cD,St.pI],HE.out.1,by simpa[St.cD,St.pI]using hq1.out,h2,HE.out.2⟩
theorem lW(d:ByteArray)(w:UY)(fZ:d.size<=4611686018427387904):Calls Tryz.prog 60 #[UM US 3,UN d] w (aF (fz d) w):=by
 by_cases hbig:65536<d.size
 ·have hR:fz d=([],0,3):=by unfold fz St.eB;rw[if_pos (by rw[St.aC];omega)]
  have HR:=aa hR;have hb:(65536:Int)<d.size:=by omega
  clear hR;go_enter Tryz.func60,Tryz.ntmps60;go_wp2;go_ret3;exact aF.err HR.out (ac.refl _)
 have hb:¬(65536:Int)<d.size:=by omega
 have HS:=aa (wg d w (by omega));go_enter Tryz.func60,Tryz.ntmps60;go_wp2_with fail;refine HS.out.mono ?_;rintro e w' ⟨A,c,rfl,hp,h1,h2,hu⟩;have HP:=aa hp;clear hp;go_wp2;go_ret3;exact⟨A,c,rfl,HP.out,h1,h2,hu⟩
end
end Go.Proofs.YthoemdibbldndaaGreatDoor.Sh
