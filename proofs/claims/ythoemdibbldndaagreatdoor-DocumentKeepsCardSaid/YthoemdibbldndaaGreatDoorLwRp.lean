/- The contract of the law's own replaced: what it gives is St.replL. -/
import Derived.Test.YthoemdibbldndaaGreatDoorDcB
import Derived.Test.YthoemdibbldndaaGreatDoorRefSlice
set_option linter.all false
set_option maxHeartbeats 0
set_option maxRecDepth 20000
open Go.Value renaming int->Yh,slice->Yj
open Option renaming none->Yq
namespace Go.Proofs.YthoemdibbldndaaGreatDoor
open Go.RowKit
theorem Kf(A B C:Option Addr)(n c m d e0:Nat)(f:List St.It)(rs:List (Int × Int))(ts:List (List St.It))(w:World)(hn:f.length=n)(hm:rs.length=m)(hm':ts.length=m)(h:aH w A f)(hB:eQ w B rs)(hC:gJ w C ts)
  (hl:n<=512) (ht:aV f<=100000000) (fu:m<=20) (hts:∀t∈ts,t.length<=1100/\aV t<=100000000) (gh:St.dd (St.aA f) 0 rs=true) :
  Calls Tryz.prog 33 #[Yj A n c,Yj B m d,Yj C m e0] w λe w'=>∃v,e=.returned v/\w'.ownsRow w.1.size 36 3 v (St.cd f rs ts).length (ak (St.cd f rs ts))/\(St.cd f rs ts).length<=60000/\aV (St.cd f rs ts)<=100000000000/\ac w w':=by
 have H:=aa h;have HN:=aa hn;have HM:=aa hm;have PT:=aa hm';have HB:=aa hB;have HC:=aa hC;have pK:=aa hts;have HT:=aa ht;have Wb:=gM f;have hle:=aa (λ(W:World) (hW:ac w W)=>la A n c f W hn (h.ai hW) (by omega) (by omega));have hsl:=aa (λ(W:World) (hW:ac w W) (a b:Nat) (hab:a<=b) (hbl:b<=St.aA f)=>sl A n c f a b W hn (h.ai hW) (by omega) (by omega) hab hbl);have vf:=aa gh;clear h hn hm hm' hB hC hts ht gh;obtain⟨L,hL⟩:∃L,L=St.aA f:=⟨_,rfl⟩;go_enter Tryz.func33,Tryz.ntmps33;go_wp2_with fail;go_loopw [7,8,17] (λs7 s8 nT wr=>By w f rs ts s7 s8 nT wr) (λ_ _ nT _=>m+1-(intOf nT).toNat)
 case atStart=>exact⟨0,0,[],Yq,0,by omega,rfl,rfl,rfl,λh=>absurd h (by simp),λ_=>⟨rfl,rfl⟩,by omega,by simp,by simp[aV],by simpa using vf.out,by simp,ac.refl _⟩
 case round=>
  obtain⟨k,a,O,A7,c7,hk,rfl,rfl,rfl,hI,hA7,hal,NS,hOt,has,mL,hu⟩:=hrel;have HU:=aa hu;have HI:=aa hI;have IN:=aa hA7;have nE:=aa mL;have hN:=HN.out;have hM:=HM.out;have Wc:=PT.out;have hT:=HT.out;clear hu hI hA7 mL
  by_cases hlt:k<m
  ·have aI:k<rs.length:=by omega
   have eS:k<ts.length:=by omega
   obtain⟨b,off,rfl,hb,hc⟩:=(HB.out.ai HU.out) (by omega);obtain⟨c0,c1⟩:=hc k aI;obtain⟨b2,off2,rfl,hb2,hc2⟩:=(HC.out.ai HU.out) (by omega);obtain⟨At,ct,g0,gI,gn,gc,gA⟩:=hc2 k eS;rw[rG _ _ rs k aI]at has;have fl:=DL f a O rs ts k aI eS;have fx:=pK.out ts[k] (List.getElem_mem eS);generalize rs[k]=r at c0 c1 has fl;generalize ts[k]=t at g0 gI gn fl fx;obtain⟨p,q⟩:=r;simp only at c0 c1 has fl
   split at has
   ·cases has
   rename_i hcond
   obtain⟨p',rfl⟩:∃p':Nat,p=p':=⟨p.toNat,by omega⟩;obtain⟨q',rfl⟩:∃q':Nat,q=q':=⟨q.toNat,by omega⟩;have hap:a<=p':=by omega
   have mm:p'<=q':=by omega
   have JY:q'<=St.aA f:=by omega
   have Rn:p'<=St.aA f:=by omega
   simp only[Int.toNat_natCast]at fl;have xm:=rq a p' f 0;have xn:=rz a p' f 0;have bm:=aa (λW hW=>hsl.out W hW a p' hap Rn);generalize St.aY a p' 0 f=P at fl xm xn bm;have gu:=St.jg (O++P);have ht1:=ry (O++P);rw[jb]at ht1;have jo:=λ(AP:Option Addr) (cP:Nat) (W:World) (hW:ac wr W) (l6:AP=Yq->P.length=0/\cP=0) (hP:aH W AP P)=>gZ A7 O.length c7 O AP P.length cP P W rfl rfl IN.out l6 (HI.out.ai hW) hP (by omega) (by rw[jb];omega)
   obtain⟨Q1,hQ1⟩:∃Q1,Q1=St.bl (O++P):=⟨_,rfl⟩;rw[<-hQ1]at fl gu ht1 jo;rw[List.length_append]at gu;have fe:=St.jg (Q1++t);have ht2:=ry (Q1++t);rw[jb]at ht2;rw[List.length_append]at fe;have xq:=λ(AQ:Option Addr) (cQ:Nat) (W:World) (hW:ac wr W) (QF:AQ=Yq->Q1.length=0/\cQ=0) (hQ:aH W AQ Q1)=>gZ AQ Q1.length cQ Q1 At t.length ct t W rfl rfl QF (λe=>by have:=gA e;omega) hQ (gI.ai hW) (by omega) (by rw[jb];omega)
   have hfin:∀(A8:Option Addr) (c8:Nat) (W:World),aH W A8 (St.bl (Q1++t))->(A8=Yq->(St.bl (Q1++t)).length=0/\c8=0)->ac w W->By w f rs ts (Yj A8 (St.bl (Q1++t)).length c8) (Yh .i64 (q':Int)) (Yh .i64 ((k:Int)+1)) W:=λA8 c8 W h1 h2 h3=>
    ⟨k+1,q',_,A8,c8,by omega,congrArg (Yh .i64) (by omega),rfl,rfl,h1,h2,JY,by omega,by omega,has,by rw[nE.out,fl],h3⟩
   have dq:=aa hfin;have BR:=aa jo;have sU:=aa xq;haveI:af b wr:=af.of hb;haveI:af b2 wr:=af.of hb2;have z1:(k:Int)<(m:Int):=by omega
   clear hc hc2 hcond fl jo xq hfin has gI gu ht1 fe ht2 xm xn fx aI eS;generalize St.bl (Q1++t)=Q2 at *;go_wp2_with fail;refine(bm.out _ (HU.out.trans uZ)).mono ?_;rintro e w3 ⟨vP,rfl,ml,hu3⟩;have bL:ac wr w3:=ac.trans (uZ) hu3;have d0:w3.cell? ⟨wr.1.size,0,Yq⟩=some (Yh .i64 (p':Int)):=(hu3.cell (p:=⟨wr.1.size,0,Yq⟩) (by simp)).trans (by simp);have d1:w3.cell? ⟨wr.1.size,1,Yq⟩=some (Yh .i64 (q':Int)):=(hu3.cell (p:=⟨wr.1.size,1,Yq⟩) (by simp)).trans (by simp);have g3:=(bL.cell (p:=⟨b2,off2+k,Yq⟩) hb2).trans g0;obtain⟨AP,cP,rfl,_,_,l6⟩:=aR ml;have JE:=aW ml rfl;haveI:af wr.1.size w3:=af.of (cx _ _ d0);haveI:af b2 w3:=af.of (cx _ _ g3);have a7:=aa bL;have HP:=aa JE
   have vt:AP=Yq->P.length=0/\cP=0:=λe=>by
    have:=l6 e
    refine⟨?_,this⟩;subst e;rcases ml.2 with⟨e1,e2⟩|⟨g,cap,cur,e1,_⟩
    ·simpa using e2
    cases e1
   generalize wr.1.size=bx at *;clear hu3 bL ml JE c0 c1 g0 l6;go_wp2_with fail
   go_region_law (first
    | (refine ej rfl 44 #[Yj A7 O.length c7,Yj AP P.length cP] _ (BR.out AP cP _ (a7.out.trans uZ) vt (HP.out.ai uZ)) ?_ ?_;(· go_simp;done);rintro e w5 ⟨v5,rfl,dC,bg⟩;obtain⟨A5,c5,rfl,_,_,hA5⟩:=aR dC;refine⟨_,rfl,?_⟩;have g5:=(bg.cell (p:=⟨b2,off2+k,Yq⟩) (af.lt inferInstance)).trans g3;have d5:=(bg.cell (p:=⟨bx,1,Yq⟩) (af.lt inferInstance)).trans d1;haveI:af b2 w5:=af.of (cx _ _ g5);haveI:af bx w5:=af.of (cx _ _ d5))
    | (refine ej rfl 44 #[Yj A5 Q1.length c5,Yj At t.length ct] _ (sU.out A5 c5 _ (a7.out.trans (ac.trans (ac.trans uZ bg) uZ)) (λe=>⟨by subst e;rcases dC.2 with⟨e1,e2⟩|⟨g,cap,cur,e1,_⟩<;>simp_all,hA5 e⟩) ((aW dC rfl).ai uZ)) ?_ ?_;(· go_simp;done);rintro e w6 ⟨v6,rfl,pe,dD⟩;obtain⟨A6,c6,rfl,_,_,hA6⟩:=aR pe;refine⟨_,rfl,?_⟩;have d6:=(dD.cell (p:=⟨bx,1,Yq⟩) (af.lt inferInstance)).trans d5;haveI:af bx w6:=af.of (cx _ _ d6)))
   all_goals
    have LQ:A6=Yq->Q2.length=0/\c6=0:=λe=>⟨by subst e;rcases pe.2 with⟨e1,e2⟩|⟨g,cap,cur,e1,_⟩<;>simp_all,hA6 e⟩
    have HE:=aa (dq.out A6 c6 w6 (aW pe rfl) LQ (HU.out.trans (a7.out.trans (ac.trans (ac.trans uZ bg) (ac.trans uZ dD)))));clear dC pe bg dD;go_wp2;exact⟨HE.out,by simp[intOf];omega⟩
  have hkn:k=m:=by omega
  subst hkn
  have hrl:St.cd f rs ts=St.bl (O++St.aY a (St.aA f) 0 f):=by
   unfold St.cd;rw[nE.out,List.drop_of_length_le (by omega),List.drop_of_length_le (by omega)];rfl
  have xm:=rq a (St.aA f) f 0;have xn:=rz a (St.aA f) f 0;have bm:=aa (λW hW=>hsl.out W hW a (St.aA f) hal (Nat.le_refl _));generalize St.aY a (St.aA f) 0 f=P at hrl xm xn bm;have gu:=St.jg (O++P);have ht1:=ry (O++P);rw[jb]at ht1;rw[List.length_append]at gu;have jo:=λ(AP:Option Addr) (cP:Nat) (W:World) (hW:ac wr W) (l6:AP=Yq->P.length=0/\cP=0) (hP:aH W AP P)=>gZ A7 O.length c7 O AP P.length cP P W rfl rfl IN.out l6 (HI.out.ai hW) hP (by omega) (by rw[jb];omega)
  rw[<-hrl]at gu ht1 jo;have BR:=aa jo;have HL:=aa (hle.out _ HU.out);clear hlt jo hrl has;go_wp2_with fail;refine HL.out.mono ?_;rintro e w2 ⟨rfl,rfl⟩;have aX:=aa (ac.refl wr);go_wp2_with fail;refine(bm.out _ (HU.out.trans aX.out)).mono ?_;rintro e w3 ⟨vP,rfl,ml,hu3⟩;obtain⟨AP,cP,rfl,_,_,l6⟩:=aR ml;have HP:=aa (aW ml rfl);have a7:=aa (aX.out.trans hu3);have vt:AP=Yq->P.length=0/\cP=0:=λe=>⟨by subst e;rcases ml.2 with⟨e1,e2⟩|⟨g,cap,cur,e1,_⟩<;>simp_all,l6 e⟩
  clear hu3 ml l6;go_wp2_with fail;refine(BR.out AP cP _ a7.out vt HP.out).mono ?_;rintro e w4 ⟨v4,rfl,jz,bf⟩;have HE:=aa (And.intro (cH jz (by have:=(HU.out.trans a7.out).size;omega)) (HU.out.trans (a7.out.trans bf)));clear jz bf;go_wp2;go_ret;exact⟨_,rfl,HE.out.1,by omega,by omega,HE.out.2⟩
