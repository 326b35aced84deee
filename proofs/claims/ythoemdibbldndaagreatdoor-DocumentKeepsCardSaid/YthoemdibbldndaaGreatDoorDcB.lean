/- The contracts of document's known, ascending and replaced, and of slices.Clone at parts. -/
import Derived.Test.YthoemdibbldndaaGreatDoorDcA
import Derived.Test.YthoemdibbldndaaGreatDoorSBuild
set_option linter.all false
set_option maxHeartbeats 0
set_option maxRecDepth 20000
open Go.Value renaming int->Yh,string->Yi,slice->Yj,bool->Yk,pointer->Yl,tuple->Ym
open Go.IntKind renaming i64->Yn
open Go.Obj renaming cells->Yo
open Go.Ending renaming returned->Yp
open Option renaming none->Yq,some->Yr
open Go renaming World->Ys
namespace Go.Proofs.YthoemdibbldndaaGreatDoor
open Go.RowKit
section
theorem rL(fmt:Int)(w:Ys)(h:fmt=1\/fmt=2\/fmt=3):Calls Tryz.prog 45 #[Yh Yn fmt] w λe w'=>e=Yp (Yk true)/\w=w':=by
 rcases h with rfl|rfl|rfl
 all_goals
  go_enter Tryz.func45,Tryz.ntmps45;go_wp2;go_ret;exact⟨rfl,rfl⟩
def eQ(w:Ys)(A:Option Addr)(rs:List (Int × Int)):Prop:=
 rs.length > 0->∃b off,A=Yr ⟨b,off,Yq⟩/\b<w.1.size/\∀j (h:j<rs.length),w.cell? ⟨b,off+j*2,Yq⟩=Yr (Yh Yn rs[j].1)/\w.cell? ⟨b,off+j*2+1,Yq⟩=Yr (Yh Yn rs[j].2)
theorem eQ.ai{w w':Ys}{A:Option Addr}{rs:List (Int × Int)}(h:eQ w A rs)(u:ac w w'):eQ w' A rs:=by
 intro h0;obtain⟨b,off,rfl,hb,hc⟩:=h h0;exact⟨b,off,rfl,Nat.lt_of_lt_of_le hb u.size,λj hj=>⟨(u.cell hb).trans (hc j hj).1,(u.cell hb).trans (hc j hj).2⟩⟩
def gJ(w:Ys)(B:Option Addr)(ts:List (List St.It)):Prop:=
 ts.length > 0->∃b off,B=Yr ⟨b,off,Yq⟩/\b<w.1.size/\∀j (h:j<ts.length),∃A c,w.cell? ⟨b,off+j,Yq⟩=Yr (Yj A ts[j].length c)/\aH w A ts[j]/\ts[j].length<=c/\c<=9223372036854775807/\(A=Yq->c=0)
theorem gJ.ai{w w':Ys}{B:Option Addr}{ts:List (List St.It)}(h:gJ w B ts)(u:ac w w'):gJ w' B ts:=by
 intro h0;obtain⟨b,off,rfl,hb,hc⟩:=h h0;refine⟨b,off,rfl,Nat.lt_of_lt_of_le hb u.size,λj hj=>?_⟩;obtain⟨A,c,g0,g1,g2,g3,g4⟩:=hc j hj;exact⟨A,c,(u.cell hb).trans g0,g1.ai u,g2,g3,g4⟩
theorem rG(n:Nat)(at':Int)(rs:List (Int × Int))(k:Nat)(h:k<rs.length):St.dd n at' (rs.drop k)=if rs[k].1<at'\/rs[k].2<rs[k].1\/(n:Int)<rs[k].2 then false else St.dd n rs[k].2 (rs.drop (k+1)):=by
 rw[List.drop_eq_getElem_cons h,St.dd]
def Sb(w:Ys)(rs:List (Int × Int))(n:Nat)(s5 db:Value)(wr:Ys):Prop:=
 ∃(k:Nat) (a:Int),k<=rs.length/\db=Yh Yn k/\s5=Yh Yn a/\St.dd n 0 rs=St.dd n a (rs.drop k)/\ac w wr
theorem Cr(A:Option Addr)(n c L:Nat)(rs:List (Int × Int))(w:Ys)(hn:rs.length=n)(h:eQ w A rs)(hl:n<=1000000000) :
  Calls Tryz.prog 47 #[Yj A n c,Yh Yn (L:Int)] w λe w'=>e=Yp (Yk (St.dd L 0 rs))/\ac w w':=by
 have H:=aa h;have HN:=aa hn;clear h hn;go_enter Tryz.func47,Tryz.ntmps47;go_wp2;go_loopw [5,10] (λs5 db wr=>Sb w rs L s5 db wr) (λ_ db _=>n+1-(intOf db).toNat)
 case atStart=>exact⟨0,0,by omega,rfl,rfl,by simp,ac.refl _⟩
 case round=>
  obtain⟨k,a,hk,rfl,rfl,has,hu⟩:=hrel;have HU:=aa hu;have HAS:=aa has;have hN:=HN.out;clear hu has
  by_cases hlt:k<n
  ·have aI:k<rs.length:=by omega
   obtain⟨b,off,rfl,hb,hc⟩:=(H.out.ai HU.out) (by omega);obtain⟨c0,c1⟩:=hc k aI;have hd:=rG L a rs k aI;generalize rs[k]=r at c0 c1 hd;obtain⟨p,q⟩:=r;simp only at c0 c1 hd;haveI:af b wr:=af.of hb;have HD:=aa hd;clear hc aI hd
   by_cases h1:p<a
   ·have hf:=aa (show St.dd L 0 rs=false by rw[HAS.out,HD.out,if_pos (.inl h1)]);go_wp2;go_ret;exact⟨az hf.out.symm,HU.out.trans uZ⟩
   by_cases h2:q<p
   ·have hf:=aa (show St.dd L 0 rs=false by rw[HAS.out,HD.out,if_pos (.inr (.inl h2))]);go_wp2;go_ret;exact⟨az hf.out.symm,HU.out.trans uZ⟩
   by_cases h3:(L:Int)<q
   ·have hf:=aa (show St.dd L 0 rs=false by rw[HAS.out,HD.out,if_pos (.inr (.inr h3))]);go_wp2;go_ret;exact⟨az hf.out.symm,HU.out.trans uZ⟩
   have hf:=aa (show St.dd L 0 rs=St.dd L q (rs.drop (k+1))by rw[HAS.out,HD.out,if_neg (by rintro (e|e|e);exact h1 e;exact h2 e;exact h3 e)]);go_wp2;exact⟨⟨k+1,q,by omega,congrArg (Yh Yn) (by omega),rfl,hf.out,HU.out.trans uZ⟩,by simp[intOf];omega⟩
  have hkn:k=n:=by omega
  subst hkn;have hf:=aa (show St.dd L 0 rs=true by rw[HAS.out,List.drop_of_length_le (by omega)];rfl);clear hlt;go_wp2;go_ret;exact⟨az hf.out.symm,HU.out⟩
end
section
theorem ej{P:Program}{ops:Array Oper}{o:Oper}{a:Act}{w:Ys}{K:Act->Ys->Prop}{Q:Exit->Act->Ys->Prop}{E:Prop}
  (hg:o.guard=Yq) (f:FuncId) (args:Array Value) (Post:Ending->Ys->Prop) (hc:Calls P f args w Post)
  (hrun:(execOp a.eval o).run P w=.ok (.enter f args) w) (hK:∀e w',Post e w'->∃v,e=Yp v/\K (a.put o.dst v) w') :
  if Region.wanted o (yielded ops a.tmps)=true then Oper.wp P o a w K Q else E:=by
 have hw:Region.wanted o (yielded ops a.tmps)=true:=by simp[Region.wanted,hg]
 rw[if_pos hw];unfold Oper.wp;rw[hrun];refine hc.mono ?_;intro e w' h;obtain⟨v,rfl,hk⟩:=hK e w' h;exact hk
theorem jb(a b:List St.It):aV (a++b)=aV a+aV b:=by unfold aV;rw[List.map_append,List.sum_append]
theorem ry(f:List St.It):aV (St.bl f)<=aV f:=by
 have key:∀(n:Nat) (f:List St.It),f.length=n->aV (St.bl f)<=aV f:=by
  intro n
  induction n with
  | zero=>intro f h;rw[List.eq_nil_of_length_eq_zero h];simp[St.bl]
  | succ n ih=>
   intro f h;rcases St.cT f with rfl|⟨a,b,rfl⟩
   ·simp at h
   rw[St.eh,cw];have h1:=gW (St.bl a) b;have h2:=ih a (by simpa using h);omega
 exact key _ f rfl
theorem rz(a b:Nat):∀(f:List St.It) (m:Nat),aV (St.aY a b m f)<=aV f
 | [],m=>by simp[St.aY]
 | x :: f,m=>by
  rw[St.aY,jb];have h:=rz a b f (m+St.aZ x);have e:aV (x :: f)=x.2.1.length+aV f:=by simp[aV]
  have h1:aV (if x.1=1 then(if max a m-m<min b (m+x.2.1.length)-m then[((1:Int),(x.2.1.take (min b (m+x.2.1.length)-m)).drop (max a m-m),x.2.2)]else[])else(if a<=m/\m<b then[x]else[]))<=x.2.1.length:=by
   repeat' split
   all_goals simp[aV]
   all_goals omega
  omega
theorem DL(f:List St.It)(a:Nat)(O:List St.It)(rs:List (Int × Int))(ts:List (List St.It))(k:Nat)(h:k<rs.length)(h':k<ts.length) :
  St.kK f a O (rs.drop k) (ts.drop k)=St.kK f rs[k].2.toNat (St.bl (St.bl (O++St.aY a rs[k].1.toNat 0 f)++ts[k])) (rs.drop (k+1)) (ts.drop (k+1)):=by
 rw[List.drop_eq_getElem_cons h,List.drop_eq_getElem_cons h',St.kK]
def By(w:Ys)(f:List St.It)(rs:List (Int × Int))(ts:List (List St.It))(s7 s8 nT:Value)(wr:Ys):Prop:=
 ∃(k a:Nat) (O:List St.It) (A c:_),k<=rs.length/\nT=Yh Yn k/\s8=Yh Yn a/\s7=Yj A O.length c/\aH wr A O/\(A=Yq->O.length=0/\c=0)/\a<=St.aA f/\O.length<=1700*k/\aV O<=200000000*k /\
  St.dd (St.aA f) a (rs.drop k)=true/\St.kK f 0 [] rs ts=St.kK f a O (rs.drop k) (ts.drop k)/\ac w wr
theorem Jh(A B C:Option Addr)(n c m d e0:Nat)(f:List St.It)(rs:List (Int × Int))(ts:List (List St.It))(w:Ys)(hn:f.length=n)(hm:rs.length=m)(hm':ts.length=m)(h:aH w A f)(hB:eQ w B rs)(hC:gJ w C ts)
  (hl:n<=512) (ht:aV f<=100000000) (fu:m<=20) (hts:∀t∈ts,t.length<=1100/\aV t<=100000000) (gh:St.dd (St.aA f) 0 rs=true) :
  Calls Tryz.prog 54 #[Yj A n c,Yj B m d,Yj C m e0] w λe w'=>∃v,e=Yp v/\w'.ownsRow w.1.size 36 3 v (St.cd f rs ts).length (ak (St.cd f rs ts))/\(St.cd f rs ts).length<=60000/\aV (St.cd f rs ts)<=100000000000/\ac w w':=by
 have H:=aa h;have HN:=aa hn;have HM:=aa hm;have PT:=aa hm';have HB:=aa hB;have HC:=aa hC;have pK:=aa hts;have HT:=aa ht;have Wb:=gM f;have hle:=aa (λ(W:Ys) (hW:ac w W)=>kY A n c f W hn (h.ai hW) (by omega) (by omega));have hsl:=aa (λ(W:Ys) (hW:ac w W) (a b:Nat) (hab:a<=b) (hbl:b<=St.aA f)=>Hn A n c f a b W hn (h.ai hW) (by omega) (by omega) hab hbl);have vf:=aa gh;clear h hn hm hm' hB hC hts ht gh;obtain⟨L,hL⟩:∃L,L=St.aA f:=⟨_,rfl⟩;go_enter Tryz.func54,Tryz.ntmps54;go_wp2_with fail;go_loopw [7,8,17] (λs7 s8 nT wr=>By w f rs ts s7 s8 nT wr) (λ_ _ nT _=>m+1-(intOf nT).toNat)
 case atStart=>exact⟨0,0,[],Yq,0,by omega,rfl,rfl,rfl,λh=>absurd h (by simp),λ_=>⟨rfl,rfl⟩,by omega,by simp,by simp[aV],by simpa using vf.out,by simp,ac.refl _⟩
 case round=>
  obtain⟨k,a,O,A7,c7,hk,rfl,rfl,rfl,hI,hA7,hal,NS,hOt,has,mL,hu⟩:=hrel;have HU:=aa hu;have HI:=aa hI;have IN:=aa hA7;have nE:=aa mL;have hN:=HN.out;have hM:=HM.out;have Wc:=PT.out;have hT:=HT.out;clear hu hI hA7 mL
  by_cases hlt:k<m
  ·have aI:k<rs.length:=by omega
   have eS:k<ts.length:=by omega
   obtain⟨b,off,rfl,hb,hc⟩:=(HB.out.ai HU.out) (by omega);obtain⟨c0,c1⟩:=hc k aI;obtain⟨b2,off2,rfl,hb2,hc2⟩:=(HC.out.ai HU.out) (by omega);obtain⟨At,ct,g0,gI,gn,gc,gA⟩:=hc2 k eS;rw[rG _ _ rs k aI]at has;have fl:=DL f a O rs ts k aI eS;have fx:=pK.out ts[k] (List.getElem_mem eS);generalize rs[k]=r at c0 c1 has fl;generalize ts[k]=t at g0 gI gn fl fx;obtain⟨p,q⟩:=r;simp only at c0 c1 has fl
   split at has
   ·cases has
   rename_i hcond
   obtain⟨p',rfl⟩:∃p':Nat,p=p':=⟨p.toNat,by omega⟩;obtain⟨q',rfl⟩:∃q':Nat,q=q':=⟨q.toNat,by omega⟩;have hap:a<=p':=by omega
   have mm:p'<=q':=by omega
   have JY:q'<=St.aA f:=by omega
   have Rn:p'<=St.aA f:=by omega
   simp only[Int.toNat_natCast]at fl;have xm:=rq a p' f 0;have xn:=rz a p' f 0;have bm:=aa (λW hW=>hsl.out W hW a p' hap Rn);generalize St.aY a p' 0 f=P at fl xm xn bm;have gu:=St.jg (O++P);have ht1:=ry (O++P);rw[jb]at ht1;have jo:=λ(AP:Option Addr) (cP:Nat) (W:Ys) (hW:ac wr W) (l6:AP=Yq->P.length=0/\cP=0) (hP:aH W AP P)=>vB A7 AP O.length c7 P.length cP O P W rfl rfl IN.out l6 (HI.out.ai hW) hP (by omega) (by rw[jb];omega)
   obtain⟨Q1,hQ1⟩:∃Q1,Q1=St.bl (O++P):=⟨_,rfl⟩;rw[<-hQ1]at fl gu ht1 jo;rw[List.length_append]at gu;have fe:=St.jg (Q1++t);have ht2:=ry (Q1++t);rw[jb]at ht2;rw[List.length_append]at fe;have xq:=λ(AQ:Option Addr) (cQ:Nat) (W:Ys) (hW:ac wr W) (QF:AQ=Yq->Q1.length=0/\cQ=0) (hQ:aH W AQ Q1)=>vB AQ At Q1.length cQ t.length ct Q1 t W rfl rfl QF (λe=>by have:=gA e;omega) hQ (gI.ai hW) (by omega) (by rw[jb];omega)
   have hfin:∀(A8:Option Addr) (c8:Nat) (W:Ys),aH W A8 (St.bl (Q1++t))->(A8=Yq->(St.bl (Q1++t)).length=0/\c8=0)->ac w W->By w f rs ts (Yj A8 (St.bl (Q1++t)).length c8) (Yh Yn (q':Int)) (Yh Yn ((k:Int)+1)) W:=λA8 c8 W h1 h2 h3=>
    ⟨k+1,q',_,A8,c8,by omega,congrArg (Yh Yn) (by omega),rfl,rfl,h1,h2,JY,by omega,by omega,has,by rw[nE.out,fl],h3⟩
   have dq:=aa hfin;have BR:=aa jo;have sU:=aa xq;haveI:af b wr:=af.of hb;haveI:af b2 wr:=af.of hb2;have z1:(k:Int)<(m:Int):=by omega
   clear hc hc2 hcond fl jo xq hfin has gI gu ht1 fe ht2 xm xn fx aI eS;generalize St.bl (Q1++t)=Q2 at *;go_wp2_with fail;refine(bm.out _ (HU.out.trans uZ)).mono ?_;rintro e w3 ⟨vP,rfl,ml,hu3⟩;have bL:ac wr w3:=ac.trans (uZ) hu3;have d0:w3.cell? ⟨wr.1.size,0,Yq⟩=Yr (Yh Yn (p':Int)):=(hu3.cell (p:=⟨wr.1.size,0,Yq⟩) (by simp)).trans (by simp);have d1:w3.cell? ⟨wr.1.size,1,Yq⟩=Yr (Yh Yn (q':Int)):=(hu3.cell (p:=⟨wr.1.size,1,Yq⟩) (by simp)).trans (by simp);have g3:=(bL.cell (p:=⟨b2,off2+k,Yq⟩) hb2).trans g0;obtain⟨AP,cP,rfl,_,_,l6⟩:=aR ml;have JE:=aW ml rfl;haveI:af wr.1.size w3:=af.of (cx _ _ d0);haveI:af b2 w3:=af.of (cx _ _ g3);have a7:=aa bL;have HP:=aa JE
   have vt:AP=Yq->P.length=0/\cP=0:=λe=>by
    have:=l6 e
    refine⟨?_,this⟩;subst e;rcases ml.2 with⟨e1,e2⟩|⟨g,cap,cur,e1,_⟩
    ·simpa using e2
    cases e1
   generalize wr.1.size=bx at *;clear hu3 bL ml JE c0 c1 g0 l6;go_wp2_with fail
   go_region_law (first
    | (refine ej rfl 98 #[Yj A7 O.length c7,Yj AP P.length cP] _ (BR.out AP cP _ (a7.out.trans uZ) vt (HP.out.ai uZ)) ?_ ?_;(· go_simp;done);rintro e w5 ⟨v5,rfl,dC,bg⟩;obtain⟨A5,c5,rfl,_,_,hA5⟩:=aR dC;refine⟨_,rfl,?_⟩;have g5:=(bg.cell (p:=⟨b2,off2+k,Yq⟩) (af.lt inferInstance)).trans g3;have d5:=(bg.cell (p:=⟨bx,1,Yq⟩) (af.lt inferInstance)).trans d1;haveI:af b2 w5:=af.of (cx _ _ g5);haveI:af bx w5:=af.of (cx _ _ d5))
    | (refine ej rfl 98 #[Yj A5 Q1.length c5,Yj At t.length ct] _ (sU.out A5 c5 _ (a7.out.trans (ac.trans (ac.trans uZ bg) uZ)) (λe=>⟨by subst e;rcases dC.2 with⟨e1,e2⟩|⟨g,cap,cur,e1,_⟩<;>simp_all,hA5 e⟩) ((aW dC rfl).ai uZ)) ?_ ?_;(· go_simp;done);rintro e w6 ⟨v6,rfl,pe,dD⟩;obtain⟨A6,c6,rfl,_,_,hA6⟩:=aR pe;refine⟨_,rfl,?_⟩;have d6:=(dD.cell (p:=⟨bx,1,Yq⟩) (af.lt inferInstance)).trans d5;haveI:af bx w6:=af.of (cx _ _ d6)))
   all_goals
    have LQ:A6=Yq->Q2.length=0/\c6=0:=λe=>⟨by subst e;rcases pe.2 with⟨e1,e2⟩|⟨g,cap,cur,e1,_⟩<;>simp_all,hA6 e⟩
    have HE:=aa (dq.out A6 c6 w6 (aW pe rfl) LQ (HU.out.trans (a7.out.trans (ac.trans (ac.trans uZ bg) (ac.trans uZ dD)))));clear dC pe bg dD;go_wp2;exact⟨HE.out,by simp[intOf];omega⟩
  have hkn:k=m:=by omega
  subst hkn
  have hrl:St.cd f rs ts=St.bl (O++St.aY a (St.aA f) 0 f):=by
   unfold St.cd;rw[nE.out,List.drop_of_length_le (by omega),List.drop_of_length_le (by omega)];rfl
  have xm:=rq a (St.aA f) f 0;have xn:=rz a (St.aA f) f 0;have bm:=aa (λW hW=>hsl.out W hW a (St.aA f) hal (Nat.le_refl _));generalize St.aY a (St.aA f) 0 f=P at hrl xm xn bm;have gu:=St.jg (O++P);have ht1:=ry (O++P);rw[jb]at ht1;rw[List.length_append]at gu;have jo:=λ(AP:Option Addr) (cP:Nat) (W:Ys) (hW:ac wr W) (l6:AP=Yq->P.length=0/\cP=0) (hP:aH W AP P)=>vB A7 AP O.length c7 P.length cP O P W rfl rfl IN.out l6 (HI.out.ai hW) hP (by omega) (by rw[jb];omega)
  rw[<-hrl]at gu ht1 jo;have BR:=aa jo;have HL:=aa (hle.out _ HU.out);clear hlt jo hrl has;go_wp2_with fail;refine HL.out.mono ?_;rintro e w2 ⟨rfl,hu2⟩;have aX:=aa hu2;clear hu2;go_wp2_with fail;refine(bm.out _ (HU.out.trans aX.out)).mono ?_;rintro e w3 ⟨vP,rfl,ml,hu3⟩;obtain⟨AP,cP,rfl,_,_,l6⟩:=aR ml;have HP:=aa (aW ml rfl);have a7:=aa (aX.out.trans hu3);have vt:AP=Yq->P.length=0/\cP=0:=λe=>⟨by subst e;rcases ml.2 with⟨e1,e2⟩|⟨g,cap,cur,e1,_⟩<;>simp_all,l6 e⟩
  clear hu3 ml l6;go_wp2_with fail;refine(BR.out AP cP _ a7.out vt HP.out).mono ?_;rintro e w4 ⟨v4,rfl,jz,bf⟩;have HE:=aa (And.intro (cH jz (by have:=(HU.out.trans a7.out).size;omega)) (HU.out.trans (a7.out.trans bf)));clear jz bf;go_wp2;go_ret;exact⟨_,rfl,HE.out.1,by omega,by omega,HE.out.2⟩
end
section
def qq(b:Nat)(w:Ys):Prop:=∃p,(p=Yl Yq\/p=Yl (Yr ⟨b,0,Yq⟩))/\w.1[b]?=Yr (Yo #[p,Yj Yq 0 0] 92 (0,0))
theorem qq.ai{b:Nat}{a c:Ys}(h:qq b a)(u:ac a c):qq b c:=by
 obtain⟨p,h1,h2⟩:=h;exact⟨p,h1,(u.below.block b (ae h2)).trans h2⟩
theorem qq.sb{B b:Nat}{w:Ys}(h:qq b w)(hB:B<=b):SB B b [] w:=by
 obtain⟨p,h1,h2⟩:=h;rcases h1 with rfl|rfl
 ·exact .inl ⟨hB,_,h2,World.ownsRow_nil _ _ _ _,by simp[Value.ownBlock]⟩
 exact .inr ⟨hB,_,h2,World.ownsRow_nil _ _ _ _,by simp[Value.ownBlock]⟩
theorem Br(B b:Nat)(w:Ys)(h:qq b w)(hB:B<=b) :
  Calls Tryz.prog 99 #[Yl (Yr ⟨b,0,Yq⟩)] w λe w'=>e=Yp (Ym #[])/\w'.1[b]?=Yr (Yo #[Yl (Yr ⟨b,0,Yq⟩),Yj Yq 0 0] 92 (0,0))/\Below B w w':=by
 obtain⟨p,h1,h2⟩:=h;rcases h1 with rfl|rfl
 ·refine(pR b w (aj h2 0) (by simp[World.shape?,h2]) (bz h2 0)).mono ?_;rintro e w' ⟨rfl,rfl⟩;exact⟨rfl,heap_setCell_same w b 0 _ _ _ h2,(Below.refl B w).setCell (p:=⟨b,0,Yq⟩) hB _⟩
 refine(qP b w (aj h2 0)).mono ?_;rintro e w' ⟨rfl,rfl⟩;exact⟨rfl,h2,Below.refl B _⟩
theorem wm(B b:Nat)(s:ByteArray)(w:Ys)(h:qq b w)(hs:s.size=0)(hB:B<=b)(hBw:B<=w.1.size) :
  Calls Tryz.prog 56 #[Yl (Yr ⟨b,0,Yq⟩),Yi s] w λe w'=>e=Yp (Ym #[Yh Yn s.size,.nilIface])/\qq b w'/\Below B w w':=by
 obtain⟨i0,hi,hz0,hz1,hz2⟩:=info_parts F1;go_enter Tryz.func56,Tryz.ntmps56;go_wp2_with (go_at_call 99;refine(Br B b _ h hB).mono ?_);rintro e w1 ⟨rfl,hbk,hb1⟩;have c0:w1.cell? ⟨b,0,Yq⟩=Yr (Yl (Yr ⟨b,0,Yq⟩)):=by rw[aj hbk];rfl
 have c1:w1.cell? ⟨b,1,Yq⟩=Yr (Yj Yq 0 0):=by rw[aj hbk];rfl
 go_wp2_with (at_builtin;refine Lib.wpList_append_own_string _ rfl _ _ 22 9 rfl B 5 i0 Tryz.underlying22 Tryz.underlying9 hi hz0 hz1 hz2 _ _ _ rfl (World.ownsRow_nil _ _ _ _) s rfl ?c3 ?c4 ?c5 ?_)
 case c3=>unfold maxLen;omega
 case c4=>omega
 case c5=>have:=hb1.size;omega
 intro v' w2 hown' hgrow hnil;obtain rfl:v'=Yj Yq 0 0:=by first|exact hnil|exact hnil.2 ⟨rfl,hs⟩
 have hb2:w2.1[b]?=Yr (Yo #[Yl (Yr ⟨b,0,Yq⟩),Yj Yq 0 0] 92 (0,0)):=by
  rw[hgrow.block b (ae hbk) (λe=>by simp[Value.ownBlock]at e)];exact hbk
 have d0:w2.cell? ⟨b,0,Yq⟩=Yr (Yl (Yr ⟨b,0,Yq⟩)):=by rw[aj hb2];rfl
 have d1:w2.cell? ⟨b,1,Yq⟩=Yr (Yj Yq 0 0):=by rw[aj hb2];rfl
 have f1:w2.frozen? ⟨b,1,Yq⟩=false:=bz hb2 1
 have hfin:=aa (show qq b (w2.setCell ⟨b,1,Yq⟩ (Yj Yq 0 0))/\Below B w (w2.setCell ⟨b,1,Yq⟩ (Yj Yq 0 0))from
  ⟨⟨_,.inr rfl,heap_setCell_same w2 b 1 _ _ _ hb2⟩,(hb1.grown hgrow (by have:=hb1.size;omega) (λk hk=>by simp[Value.ownBlock]at hk)).setCell (p:=⟨b,1,Yq⟩) hB _⟩)
 clear hown' hgrow hnil;go_wp2;go_ret2;exact⟨by first|rfl|(rw[hs];rfl),hfin.out.1,hfin.out.2⟩
def tf(B b:Nat)(l:List UInt8)(w:Ys):Prop:=(l=[]/\qq b w/\B<=b)\/(l≠[]/\SB B b l w)
theorem tf.ai{B b:Nat}{l:List UInt8}{a c:Ys}(h:tf B b l a)(u:ac a c):tf B b l c:=by
 rcases h with⟨h1,h2,h3⟩|⟨h1,h2⟩
 ·exact .inl ⟨h1,h2.ai u,h3⟩
 exact .inr ⟨h1,h2.ai u⟩
theorem EF(B b:Nat)(l t:List UInt8)(w:Ys)(h:tf B b l w)(hlen:l.length+t.length<=140737488355328)(hBw:B<=w.1.size) :
  Calls Tryz.prog 56 #[Yl (Yr ⟨b,0,Yq⟩),Yi ⟨t.toArray⟩] w λe w'=>e=Yp (Ym #[Yh Yn (t.length:Int),.nilIface])/\tf B b (l++t) w'/\Below B w w':=by
 have hz:(⟨t.toArray⟩:ByteArray).size=t.length:=by show t.toArray.size=_;simp
 have key:SB B b l w->l++t≠[]->Calls Tryz.prog 56 #[Yl (Yr ⟨b,0,Yq⟩),Yi ⟨t.toArray⟩] w λe w'=>e=Yp (Ym #[Yh Yn (t.length:Int),.nilIface])/\tf B b (l++t) w'/\Below B w w':=λh1 h2=>by
  refine(yc B b l ⟨t.toArray⟩ w h1 (by rw[hz];exact hlen) hBw).mono ?_;rintro e w' ⟨rfl,h3,h4,_⟩;exact⟨by rw[hz],.inr ⟨h2,by simpa using h3⟩,h4⟩
 rcases h with⟨rfl,h2,h3⟩|⟨h1,h2⟩
 ·by_cases ht:t=[]
  ·subst ht;refine(wm B b ⟨#[]⟩ w h2 rfl h3 hBw).mono ?_;rintro e w' ⟨rfl,h4,h5⟩;exact⟨rfl,.inl ⟨rfl,h4,h3⟩,h5⟩
  exact key (h2.sb h3) (by simpa using ht)
 exact key h2 (by simp[h1])
theorem Im(B b:Nat)(l:List UInt8)(w:Ys)(h:tf B b l w) :
  Calls Tryz.prog 57 #[Yl (Yr ⟨b,0,Yq⟩)] w λe w'=>e=Yp (Yi ⟨l.toArray⟩)/\Below B w w':=by
 rcases h with⟨rfl,⟨p,_,h2⟩,_⟩|⟨h1,h2⟩
 ·exact DT B b p w h2
 exact DS B b l w h2 h1
def Nb(w:Ys)(b:Nat)(ps:List St.Pt)(n:Nat)(s9:Value)(wr:Ys):Prop:=
 ∃k:Nat,k<=n/\s9=Yh Yn k/\tf w.1.size b (St.b6 (ps.take k)) wr/\ac w wr
theorem DE(ps:List St.Pt)(k:Nat)(h:k<ps.length):St.b6 (ps.take (k+1))=St.b6 (ps.take k)++ps[k].2.2:=by
 unfold St.b6;rw[List.take_add_one,List.getElem?_eq_getElem h,List.flatMap_append];simp
theorem zuu(ps:List St.Pt)(k:Nat):(St.b6 (ps.take k)).length<=(St.b6 ps).length:=by
 have e:St.b6 ps=St.b6 (ps.take k)++St.b6 (ps.drop k):=by
  conv=>lhs;rw[<-List.take_append_drop k ps]
  unfold St.b6;rw[List.flatMap_append]
 rw[e,List.length_append];omega
theorem rJ(fmt:Int)(A:Option Addr)(n c:Nat)(ps:List St.Pt)(w:Ys)(hn:ps.length=n)(h:bk w A ps)(hl:n<=9223372036854775807)(hr:(St.b6 ps).length<=1000000000) :
  Calls Tryz.prog 17 #[.agg #[Yh Yn fmt,Yj A n c]] w λe w'=>e=Yp (Yi ⟨(St.b6 ps).toArray⟩)/\ac w w':=by
 have H:=aa h;have HN:=aa hn;have HR:=aa hr;clear h hn hr;go_enter Tryz.func17,Tryz.ntmps17;go_wp2_with fail;go_loopw [9] (λs9 wr=>Nb w (w.1.size+1) ps n s9 wr) (λs9 _=>n+1-(intOf s9).toNat)
 case atStart=>
  refine⟨0,by omega,rfl,.inl ⟨rfl,⟨Yl Yq,.inl rfl,?_⟩,by omega⟩,uZ⟩;have:=heap_alloc_new (w.alloc (Yo #[Yh Yn fmt,Yj A n c] 25)) (Yo #[Yl Yq,Yj Yq 0 0] 92)
  simpa using this
 case round=>
  obtain⟨k,hk,rfl,n5,hu⟩:=hrel;have HU:=aa hu;have zD:=aa n5;have hN:=HN.out;have hR:=HR.out;have hsz:=hu.size;clear hu n5
  by_cases hlt:k<n
  ·have aI:k<ps.length:=by omega
   obtain⟨b,off,rfl,hb,hc⟩:=(H.out.ai HU.out) (by omega);obtain⟨c0,c1,c2⟩:=hc k aI;have hrt:=DE ps k aI;have h1:=zuu ps (k+1);generalize ps[k]=x at c0 c1 c2 hrt;obtain⟨xu,xk,xr⟩:=x;simp only at c0 c1 c2 hrt;rw[hrt,List.length_append]at h1;have hwr:=aa (λ(W:Ys) (hW:ac wr W)=>EF w.1.size (w.1.size+1) (St.b6 (ps.take k)) xr W (zD.out.ai hW) (by omega) (by have:=hW.size;omega));rw[<-hrt]at hwr;haveI:af b wr:=af.of hb;clear hc aI hrt;go_wp2_with fail;refine(hwr.out _ uZ).mono ?_;rintro e w3 ⟨rfl,h3,h4⟩;have HE:=aa (show Nb w (w.1.size+1) ps n (Yh Yn ((k:Int)+1)) w3 from⟨k+1,by omega,congrArg (Yh Yn) (by omega),h3,ac.mk (((HU.out.trans uZ).below).trans h4)⟩);clear h3 h4;go_wp2;exact⟨HE.out,by simp[intOf];omega⟩
  have hkn:k=n:=by omega
  subst hkn;have hft:ps.take k=ps:=List.take_of_length_le (by omega);rw[hft]at zD;have hst:=aa (Im w.1.size (w.1.size+1) (St.b6 ps) wr zD.out);clear hlt hft;go_wp2_with fail;refine hst.out.mono ?_;rintro e w3 ⟨rfl,h4⟩;have HE:=aa (ac.mk (HU.out.below.trans h4));clear h4;go_wp2;go_ret;exact⟨rfl,HE.out⟩
end
section
structure qt (w0:Ys) (fmt:Int) (S:List UInt8->List St.Pt × Nat × Int):Prop where
 kn:fmt=1\/fmt=2\/fmt=3
 ug:∀(d:ByteArray) (w:Ys),ac w0 w->d.size<=1000000000->Calls Tryz.prog 46 #[Yh Yn fmt,Yi d] w λe w'=>∃A c,e=Yp (Ym #[Yj A (S d.1.1).1.length c,Yh Yn ((S d.1.1).2.1:Int),Yh Yn (S d.1.1).2.2])/\bk w' A (S d.1.1).1/\(S d.1.1).1.length<=c/\c<=9223372036854775807/\ac w w'
theorem qt.ai{a c:Ys}{fmt:Int}{S:List UInt8->List St.Pt × Nat × Int}(h:qt a fmt S)(u:ac a c):qt c fmt S:=⟨h.kn,λd w hw=>h.ug d w (u.trans hw)⟩
structure mP (w0:Ys) (fmt:Int) (D:List UInt8->St.gr) (S:List UInt8->List St.Pt × Nat × Int):Prop where
 kn:fmt=1\/fmt=2\/fmt=3
 ug:∀(d:ByteArray) (w:Ys),ac w0 w->d.size<=1000000000->Calls Tryz.prog 46 #[Yh Yn fmt,Yi d] w λe w'=>∃A c,e=Yp (Ym #[Yj A (S d.1.1).1.length c,Yh Yn ((S d.1.1).2.1:Int),Yh Yn (S d.1.1).2.2])/\bk w' A (S d.1.1).1/\(S d.1.1).1.length<=c/\c<=9223372036854775807/\ac w w'
 dec:∀(d:ByteArray) (w:Ys),ac w0 w->d.size<=1000000000->Calls Tryz.prog 51 #[Yh Yn fmt,Yi d] w λe w'=>∃A c,e=Yp (Ym #[Yj A (D d.1.1).1.length c,Yh Yn (D d.1.1).2.2.2])/\aH w' A (D d.1.1).1/\(D d.1.1).1.length<=c/\c<=9223372036854775807/\ac w w'
 cut:∀(d:ByteArray) (w:Ys),ac w0 w->d.size<=1000000000->Calls Tryz.prog 49 #[Yh Yn fmt,Yi d] w λe w'=>∃A c,e=Yp (Ym #[Yj A (D d.1.1).2.1.length c,Yh Yn (D d.1.1).2.2.2])/\iJ w' A (D d.1.1).2.1/\(D d.1.1).2.1.length<=c/\c<=9223372036854775807/\ac w w'
 enc:∀(A:Option Addr) (n c:Nat) (f:List St.It) (w:Ys),ac w0 w->f.length=n->n<=c->c<=9223372036854775807->aH w A f->n<=1000000000->aV f<=1000000000000->Calls Tryz.prog 50 #[Yh Yn fmt,Yj A n c] w λe w'=>e=Yp (Ym #[Yi ⟨(St.bw fmt f).1.toArray⟩,Yh Yn (St.bw fmt f).2])/\ac w w'
 ok:∀d,(D d).2.2.2=0->St.wu d.length (D d)
theorem mP.sp{a:Ys}{fmt:Int}{D:List UInt8->St.gr}{S:List UInt8->List St.Pt × Nat × Int}(h:mP a fmt D S):qt a fmt S:=⟨h.kn,h.ug⟩
theorem mP.ai{a c:Ys}{fmt:Int}{D:List UInt8->St.gr}{S:List UInt8->List St.Pt × Nat × Int}(h:mP a fmt D S)(u:ac a c):mP c fmt D S:=
 ⟨h.kn,λd w hw=>h.ug d w (u.trans hw),λd w hw=>h.dec d w (u.trans hw),λd w hw=>h.cut d w (u.trans hw),λA n c f w hw=>h.enc A n c f w (u.trans hw),h.ok⟩
theorem gH{W:Ys}{A:Option Addr}{ps:List St.Pt}{g:Nat}{i:Int}{a:Option Addr}{n c:Nat}(h:bk W A ps)(hg:W.1[g]?=Yr (Yo #[Yh Yn i,Yj a n c] 25 (0,0)))(u v:Value) :
  bk ((W.setCell ⟨g,0,Yq⟩ u).setCell ⟨g,1,Yq⟩ v) A ps:=by
 intro h0;obtain⟨b,off,rfl,hb,hc⟩:=h h0
 have hne:b≠g:=by
  intro e;subst e;have h1:=(hc 0 h0).1;rw[aj hg]at h1
  match hm:off+0*3,h1 with
  | 0,h1=>simp at h1
  | 1,h1=>simp at h1
  | k+2,h1=>simp at h1
 have hbl:∀off',((W.setCell ⟨g,0,Yq⟩ u).setCell ⟨g,1,Yq⟩ v).cell? ⟨b,off',Yq⟩=W.cell? ⟨b,off',Yq⟩:=λoff'=>
  World.cell?_of_block (a:=⟨b,off',Yq⟩) ((Below.heap_setCell _ ⟨g,1,Yq⟩ v b hne).trans (Below.heap_setCell W ⟨g,0,Yq⟩ u b hne))
 refine⟨b,off,rfl,by simpa using hb,λj hj=>?_⟩;rw[hbl,hbl,hbl];exact hc j hj
section
variable {fmt:Int} {D:List UInt8->St.gr} {S:List UInt8->List St.Pt × Nat × Int}
def vh(fmt:Int)(R:List St.Pt × Nat × Int)(w:Ys)(e:Ending)(w':Ys):Prop:=
 ac w w'/\((R.2.2=0/\∃A c,e=Yp (Ym #[.agg #[Yh Yn fmt,Yj A R.1.length c],Yh Yn 0,Yh Yn 0])/\bk w' A R.1/\R.1.length<=c/\c<=9223372036854775807)\/
  (R.2.2≠0/\e=Yp (Ym #[.agg #[Yh Yn 0,Yj Yq 0 0],Yh Yn (R.2.1:Int),Yh Yn R.2.2])))
theorem zT(d:ByteArray)(w:Ys)(hF:qt w fmt S)(hd:d.size<=1000000000):Calls Tryz.prog 14 #[Yh Yn fmt,Yi d] w (vh fmt (S d.1.1) w):=by
 have HK:=aa (λW=>rL fmt W hF.kn);have HS:=aa (λW (hW:ac w W)=>hF.ug d W hW hd);generalize S d.1.1=R at HS |-;obtain⟨ps,pl,er⟩:=R;clear hF;go_enter Tryz.func14,Tryz.ntmps14;go_wp2_with fail;refine(HK.out _).mono ?_;rintro e w2 ⟨rfl,rfl⟩;go_wp2_with fail;refine(HS.out _ uZ).mono ?_;rintro e w3 ⟨A,c,rfl,hP,h1,h2,hu⟩;have hu':ac w w3:=ac.trans (uZ) hu;have hb3:=(hu.below.block w.1.size (by simp)).trans (heap_alloc_new w (Yo #[Yh Yn 0,Yj Yq 0 0] 25));have d0:w3.cell? ⟨w.1.size,0,Yq⟩=Yr (Yh Yn 0):=aj hb3 0;have d1:w3.cell? ⟨w.1.size,1,Yq⟩=Yr (Yj Yq 0 0):=aj hb3 1;have f0:w3.frozen? ⟨w.1.size,0,Yq⟩=false:=bz hb3 0;have f1:w3.frozen? ⟨w.1.size,1,Yq⟩=false:=bz hb3 1;haveI:af w.1.size w3:=af.of (ae hb3);have lm:∀u v,ac w ((w3.setCell ⟨w.1.size,0,Yq⟩ u).setCell ⟨w.1.size,1,Yq⟩ v):=λu v=>ac.mk ((hu'.below.setCell (p:=⟨w.1.size,0,Yq⟩) (Nat.le_refl _) u).setCell (p:=⟨w.1.size,1,Yq⟩) (Nat.le_refl _) v)
 have B9:=aa lm;have EX:=aa (λu v=>gH hP hb3 u v);simp only at h1 |-;clear hu hu' hb3 lm hP
 by_cases he:er=0
 ·subst he;go_wp2;refine bodyPost_ret (v:=Ym #[.agg #[Yh Yn fmt,Yj A ps.length c],Yh Yn 0,Yh Yn 0]) ?_ rfl ?_
  ·simp[results,Tryz.results14,go_sem,d0,d1]
  exact⟨B9.out _ _,.inl ⟨rfl,A,c,rfl,EX.out _ _,h1,h2⟩⟩
 have z1:(er==0)=false:=by simpa using he
 have z2:(er != 0)=true:=by simpa using he
 have HE:=aa he;clear he;go_wp2;refine bodyPost_ret (v:=Ym #[.agg #[Yh Yn 0,Yj Yq 0 0],Yh Yn pl,Yh Yn er]) ?_ rfl ?_
 ·simp[results,Tryz.results14,go_sem,d0,d1]
 exact⟨B9.out _ _,.inr ⟨HE.out,rfl⟩⟩
theorem GJ(d:ByteArray)(w:Ys)(hF:mP w fmt D S)(hd:d.size<=1000000000):Calls Tryz.prog 14 #[Yh Yn fmt,Yi d] w (vh fmt (S d.1.1) w):=zT d w hF.sp hd
end
end
section
variable {fmt:Int} {D:List UInt8->St.gr} {S:List UInt8->List St.Pt × Nat × Int}
theorem tX(ps:List St.Pt)(k:Nat)(h:k<ps.length):ps[k].2.2.length<=(St.b6 ps).length:=by
 have h1:=zuu ps (k+1);rw[DE ps k h,List.length_append]at h1;omega
def cY(R:St.gr)(w:Ys)(e:Ending)(w':Ys):Prop:=
 ∃A c,e=Yp (Ym #[Yj A R.1.length c,Yh Yn R.2.2.2])/\aH w' A R.1/\R.1.length<=c/\c<=9223372036854775807/\ac w w'
theorem cY.lv{R:St.gr}{w w':Ys}(h:R=([],[],0,6))(u:ac w w'):cY R w (Yp (Ym #[Yj Yq 0 0,Yh Yn 6])) w':=by
 subst h;exact⟨Yq,0,rfl,λh=>absurd h (by simp),by simp,by omega,u⟩
theorem pQ{ps:List St.Pt}{k:Int}(h:St.gl ps k=(false,[],[])):St.bO D ps k=([],[],0,6):=by unfold St.bO;rw[h];rfl
theorem Cs(A:Option Addr)(n c:Nat)(ps:List St.Pt)(k:Int)(w:Ys)(hk:fmt=1\/fmt=2\/fmt=3)(hD:∀(d:ByteArray) (W:Ys),ac w W->d.size<=1000000000->Calls Tryz.prog 51 #[Yh Yn fmt,Yi d] W (cY (D d.1.1) W))(hn:ps.length=n)(h:bk w A ps)(hl:n<=9223372036854775807)(hr:(St.b6 ps).length<=1000000000) :
  Calls Tryz.prog 26 #[.agg #[Yh Yn fmt,Yj A n c],Yh Yn k] w (cY (St.bO D ps k) w):=by
 have HK:=aa (λW=>rL fmt W hk);have HD:=aa hD;have H:=aa h;have HN:=aa hn;have HR:=aa hr;clear hk hD h hn hr
 by_cases k0:k<0
 ·have hm:=aa (show St.bO D ps k=([],[],0,6)from pQ (by unfold St.gl;rw[if_neg (by omega)]));go_enter Tryz.func26,Tryz.ntmps26;go_wp2_with fail;refine(HK.out _).mono ?_;rintro e w2 ⟨rfl,rfl⟩;go_wp2;go_ret2;exact cY.lv hm.out uZ
 obtain⟨j,rfl⟩:∃j:Nat,k=j:=⟨k.toNat,by omega⟩
 by_cases kn:j<n
 ·have hj:j<ps.length:=by rw[HN.out];exact kn
  obtain⟨b,off,rfl,hb,hc⟩:=H.out (by omega);obtain⟨c0,c1,c2⟩:=hc j hj;have hpt:St.gl ps (j:Int)=ps[j]:=by unfold St.gl;rw[if_pos (by omega),Int.toNat_natCast,List.getElem?_eq_getElem hj];rfl
  have hrl:=tX ps j hj;have iO:St.bO D ps (j:Int)=if ps[j].1=true then D ps[j].2.2 else([],[],0,6):=by unfold St.bO;rw[hpt]
  generalize ps[j]=x at c0 c1 c2 hrl iO;obtain⟨xu,xk,xr⟩:=x;simp only at c0 c1 c2 hrl iO;haveI:af b w:=af.of hb;have hR:=HR.out;have z1:¬(n:Int)<=(j:Int):=by omega
  have z2:(j:Int)<(n:Int):=by omega
  have z3:¬(j:Int)<0:=by omega
  have ww:=aa iO;clear hc hj hpt k0 iO;cases xu
  ·have hm:=aa (show St.bO D ps (j:Int)=([],[],0,6)by rw[ww.out];rfl);go_enter Tryz.func26,Tryz.ntmps26;go_wp2_with fail;refine(HK.out _).mono ?_;rintro e w2 ⟨rfl,rfl⟩;go_wp2;go_ret2;exact cY.lv hm.out uZ
  have hm:=aa (show St.bO D ps (j:Int)=D xr by rw[ww.out];rfl);have eG:=aa (λW hW=>HD.out ⟨xr.toArray⟩ W hW (by show xr.toArray.size<=_;simp;omega));go_enter Tryz.func26,Tryz.ntmps26;go_wp2_with fail;refine(HK.out _).mono ?_;rintro e w2 ⟨rfl,rfl⟩;go_wp2_with fail;go_region_law (refine ej rfl 51 #[Yh Yn fmt,Yi ⟨xr.toArray⟩] _ (eG.out _ uZ) ?_ ?_;(· go_simp;done);rintro e w3 ⟨A3,c3,rfl,hI,h1,h2,hu⟩;refine⟨_,rfl,?_⟩)
  all_goals
   have HE:=aa (show cY (D xr) w (Yp (Ym #[Yj A3 (D xr).1.length c3,Yh Yn (D xr).2.2.2])) w3 from⟨A3,c3,rfl,hI,h1,h2,ac.trans (uZ) hu⟩);clear hI h1 h2 hu;go_wp2;go_ret2;rw[hm.out];exact HE.out
 have hm:=aa (show St.bO D ps (j:Int)=([],[],0,6)from pQ (by
  unfold St.gl
  rw[if_pos (by omega),Int.toNat_natCast,List.getElem?_eq_none (by rw[HN.out];omega)];rfl))
 have z1:(n:Int)<=(j:Int):=by omega
 have z3:¬(j:Int)<0:=by omega
 go_enter Tryz.func26,Tryz.ntmps26;go_wp2_with fail;refine(HK.out _).mono ?_;rintro e w2 ⟨rfl,rfl⟩;go_wp2;go_ret2;exact cY.lv hm.out uZ
theorem zQ(A:Option Addr)(n c:Nat)(ps:List St.Pt)(k:Int)(w:Ys)(hF:mP w fmt D S)(hn:ps.length=n)(h:bk w A ps)(hl:n<=9223372036854775807)(hr:(St.b6 ps).length<=1000000000) :
  Calls Tryz.prog 26 #[.agg #[Yh Yn fmt,Yj A n c],Yh Yn k] w (cY (St.bO D ps k) w):=
 Cs A n c ps k w hF.kn (λd W hW hd=>hF.dec d W hW hd) hn h hl hr
end
section
theorem xS{V W:Ys}{A:Option Addr}{ps:List St.Pt}{i:Int}{a:Option Addr}{n c:Nat}(h:bk W A ps)(u':ac (V.alloc (Yo #[Yh Yn i,Yj a n c] 25)) W)(u v:Value) :
  bk ((W.setCell ⟨V.1.size,0,Yq⟩ u).setCell ⟨V.1.size,1,Yq⟩ v) A ps:=
 gH h ((u'.below.block V.1.size (by simp)).trans (heap_alloc_new V (Yo #[Yh Yn i,Yj a n c] 25))) u v
variable {fmt:Int} {D:List UInt8->St.gr} {S:List UInt8->List St.Pt × Nat × Int}
theorem zU(A:Option Addr)(n c:Nat)(ps:List St.Pt)(w:Ys)(hF:qt w fmt S)(hn:ps.length=n)(hnc:n<=c)(dG:c<=9223372036854775807)(h:bk w A ps)(hl:n<=9223372036854775807)(hr:(St.b6 ps).length<=1000000000) :
  Calls Tryz.prog 23 #[.agg #[Yh Yn fmt,Yj A n c]] w λe w'=>e=Yp (Yh Yn (St.fL S ps))/\ac w w':=by
 have HK:=aa (λW=>rL fmt W hF.kn);have HB:=aa (λW (hW:ac w W)=>rJ fmt A n c ps W hn (h.ai hW) hl hr);have HP:=aa (λW (hW:ac w W)=>zT ⟨(St.b6 ps).toArray⟩ W (hF.ai hW) (by show(St.b6 ps).toArray.size<=_;simpa using hr));have H:=aa h;have HN:=aa hn;have hv:St.fL S ps=if(S (St.b6 ps)).2.2=0/\(S (St.b6 ps)).1=ps then 0 else 11:=rfl
 have pg:(⟨(St.b6 ps).toArray⟩:ByteArray).1.1=St.b6 ps:=by simp
 rw[pg]at HP;generalize(⟨(St.b6 ps).toArray⟩:ByteArray)=iD at HB HP;generalize S (St.b6 ps)=R at hv HP;obtain⟨qs,pl,er⟩:=R;simp only at hv;have HV:=aa hv;clear hF h hn hr hv pg
 by_cases he:er=0
 ·subst he;have hpe:Hid (∀(W:Ys),ac w W->Calls Tryz.prog 14 #[Yh Yn fmt,Yi iD] W λe w'=>∃A' c',e=Yp (Ym #[.agg #[Yh Yn fmt,Yj A' qs.length c'],Yh Yn 0,Yh Yn 0])/\bk w' A' qs/\qs.length<=c'/\c'<=9223372036854775807/\ac W w'):=aa λW hW=>(HP.out W hW).mono λe w' ⟨hu,h⟩=>by
   rcases h with⟨_,A',c',h1,h2,h3,h4⟩|⟨h0,_⟩
   ·exact⟨A',c',h1,h2,h3,h4,hu⟩
   exact absurd rfl h0
  clear HP;go_enter Tryz.func23,Tryz.ntmps23;go_wp2_with fail;refine(HK.out _).mono ?_;rintro e w2 ⟨rfl,rfl⟩;go_wp2_with fail
  go_region_law (first
   | (refine ej rfl 17 #[.agg #[Yh Yn fmt,Yj A n c]] _ (HB.out _ uZ) ?_ ?_;(· go_simp;done);rintro e w5 ⟨rfl,X5,rfl⟩;refine⟨_,rfl,?_⟩)
   | (refine ej rfl 14 #[Yh Yn fmt,Yi iD] _ (hpe.out _ uZ) ?_ ?_;(· go_simp;done);rintro e w6 ⟨A6,c6,rfl,hP6,h61,CK,X6,rfl⟩;refine⟨_,rfl,?_⟩))
  all_goals
   go_wp2_with fail;have hcall:=λW (hW:ac w W) (hP:bk W A6 qs)=>DV A6 A qs.length n c6 c qs ps W rfl HN.out h61 hnc CK dG hP (H.out.ai hW)
   refine(hcall _ uZ ?_).mono ?_
   ·try rw[under_under]at hP6
    first
     | (refine hP6.ai ?_;(repeat (first|exact ac.refl _|assumption|refine ac.under ?_ _|refine ac.alloc ?_ _|refine ac.drew ?_|refine ac.drewN ?_ _));done)
     | (have q:=xS (V:=(under (w.alloc (Yo #[Yh IntKind.i64 fmt,Yj A n c] 25)).drew X5)) (i:=0) (a:=Yq) (n:=0) (c:=0) hP6 uZ (Yh Yn fmt) (Yj A6 qs.length c6);simpa[go_sem]using q)
     | (have q:=xS (V:=w.alloc (Yo #[Yh IntKind.i64 fmt,Yj A n c] 25)) (i:=0) (a:=Yq) (n:=0) (c:=0) hP6 uZ (Yh Yn fmt) (Yj A6 qs.length c6);simpa[go_sem]using q)
   rintro e w7 ⟨rfl,X7,rfl⟩;obtain⟨b,hb⟩:∃b,b=decide (qs=ps):=⟨_,rfl⟩;have sT:=aa hb;rw[<-hb];clear hb hP6;cases b
   ·go_wp2;go_ret;rw[HV.out,if_neg (λhh=>of_decide_eq_false sT.out.symm hh.2)];exact⟨rfl,uZ⟩
   go_wp2;go_ret;rw[HV.out,if_pos ⟨trivial,of_decide_eq_true sT.out.symm⟩];exact⟨rfl,uZ⟩
 have z1:(er==0)=false:=by simpa using he
 have z2:(er != 0)=true:=by simpa using he
 have HE:=aa he
 have hpe:Hid (∀(W:Ys),ac w W->Calls Tryz.prog 14 #[Yh Yn fmt,Yi iD] W λe w'=>e=Yp (Ym #[.agg #[Yh Yn 0,Yj Yq 0 0],Yh Yn (pl:Int),Yh Yn er])/\ac W w'):=aa λW hW=>(HP.out W hW).mono λe w' ⟨hu,h⟩=>by
  rcases h with⟨h0,_⟩|⟨_,h1⟩
  ·exact absurd h0 he
  exact⟨h1,hu⟩
 clear HP he;go_enter Tryz.func23,Tryz.ntmps23;go_wp2_with fail;refine(HK.out _).mono ?_;rintro e w2 ⟨rfl,rfl⟩;go_wp2_with fail
 go_region_law (first
  | (refine ej rfl 17 #[.agg #[Yh Yn fmt,Yj A n c]] _ (HB.out _ uZ) ?_ ?_;(· go_simp;done);rintro e w5 ⟨rfl,X5,rfl⟩;refine⟨_,rfl,?_⟩)
  | (refine ej rfl 14 #[Yh Yn fmt,Yi iD] _ (hpe.out _ uZ) ?_ ?_;(· go_simp;done);rintro e w6 ⟨rfl,X6,rfl⟩;refine⟨_,rfl,?_⟩))
 all_goals
  go_wp2;go_ret;rw[HV.out,if_neg (λhh=>HE.out hh.1)];exact⟨rfl,uZ⟩
theorem wY(A:Option Addr)(n c:Nat)(ps:List St.Pt)(w:Ys)(hF:mP w fmt D S)(hn:ps.length=n)(hnc:n<=c)(dG:c<=9223372036854775807)(h:bk w A ps)(hl:n<=9223372036854775807)(hr:(St.b6 ps).length<=1000000000) :
  Calls Tryz.prog 23 #[.agg #[Yh Yn fmt,Yj A n c]] w λe w'=>e=Yp (Yh Yn (St.fL S ps))/\ac w w':=zU A n c ps w hF.sp hn hnc dG h hl hr
end
section
theorem Gy(f:List St.Pt)(j:Nat)(u:Value)(h:(bX f)[j]?=Yr u):∃k,∃hk:k<f.length,(j=k*3/\u=Yk f[k].1)\/(j=k*3+1/\u=Yi ⟨f[k].2.1.toArray⟩)\/(j=k*3+2/\u=Yi ⟨f[k].2.2.toArray⟩):=by
 have hlen:∀g:List St.Pt,(bX g).length=g.length*3:=by
  intro g
  induction g with
  | nil=>rfl
  | cons x g ih=>simp only[bX,List.flatMap_cons,List.length_append,List.length_cons,List.length_nil]at ih |-;omega
 have hj:j<(bX f).length:=(List.getElem?_eq_some_iff.1 h).1;rw[hlen]at hj;have hk:j / 3<f.length:=by omega
 obtain⟨a,b,c⟩:=zM f (j / 3) hk;refine⟨j / 3,hk,?_⟩;rcases(show j=j / 3*3\/j=j / 3*3+1\/j=j / 3*3+2 by omega)with e|e|e
 ·rw[<-e,h]at a;exact .inl ⟨e,Option.some.inj a⟩
 ·rw[<-e,h]at b;exact .inr (.inl ⟨e,Option.some.inj b⟩)
 rw[<-e,h]at c;exact .inr (.inr ⟨e,Option.some.inj c⟩)
theorem sE(g:List St.Pt):(bX g).length=g.length*3:=by
 induction g with
 | nil=>rfl
 | cons x g ih=>simp only[bX,List.flatMap_cons,List.length_append,List.length_cons,List.length_nil]at ih |-;omega
theorem Io(b off n c:Nat)(ps:List St.Pt)(w:Ys)(hn:ps.length=n)(hb:b<w.1.size)(h:∀j (h:j<ps.length),w.cell? ⟨b,off+j*3,Yq⟩=Yr (Yk ps[j].1)/\w.cell? ⟨b,off+j*3+1,Yq⟩=Yr (Yi ⟨ps[j].2.1.toArray⟩)/\w.cell? ⟨b,off+j*3+2,Yq⟩=Yr (Yi ⟨ps[j].2.2.toArray⟩))(hl:n<=1000000000) :
  Calls Tryz.prog 55 #[Yj (Yr ⟨b,off,Yq⟩) n c] w λe w'=>∃v,e=Yp v/\w'.ownsRow w.1.size 64 3 v n (bX ps)/\ac w w':=by
 obtain⟨i0,hi,hz0,hz1,hz2⟩:=info_parts nP;have q:=λ(w:World) (a:Option Addr) (n c n' c':Nat)=>Lib.run_eql_slice_nil w 23 64 a n c n' c' Tryz.underlying23
 have hcells:∀(w1:Ys),ac w w1->∀j u,(bX ps)[j]?=Yr u->w1.cell? ((⟨b,off,Yq⟩:Addr).add j)=Yr u:=λw1 hu j u hj=>by
  rw[Addr.add_lit];obtain⟨k,hk,h1⟩:=Gy ps j u hj;obtain⟨c0,c1,c2⟩:=h k hk;rcases h1 with⟨rfl,rfl⟩|⟨rfl,rfl⟩|⟨rfl,rfl⟩
  ·exact(hu.cell hb).trans c0
  ·exact(hu.cell hb).trans c1
  exact(hu.cell hb).trans c2
 have hone:∀u∈bX ps,u.oneCell'=true:=λu hu=>by
  unfold bX at hu;obtain⟨x,_,hx⟩:=List.mem_flatMap.1 hu;simp only[List.mem_cons,List.not_mem_nil,or_false]at hx;rcases hx with rfl|rfl|rfl<;>rfl
 have HC:=aa hcells;have HO:=aa hone;have hlen:=aa (show(bX ps).length=n*3 by rw[sE,hn]);clear hcells hone h;go_enter Tryz.func55,Tryz.ntmps55;go_wp2_with (at_builtin;refine wpList_append_own _ rfl _ _ 23 rfl w.1.size 64 i0 (.agg #[.bool false,.string ⟨#[]⟩,.string ⟨#[]⟩]) 3 40 Tryz.underlying23 hi hz0 hz1 hz2 rfl (by decide) _ _ _ rfl (World.ownsRow_made w #[] 0 (Nat.le_refl _) (Nat.zero_le _) rfl) ⟨b,off,none⟩ n c (bX ps) rfl ?qc1 ?qc2 ?qc3 ?qc4 ?qc5 ?qc6 ?_)
 case qc1=>exact hlen.out
 case qc2=>exact HC.out _ uZ
 case qc3=>exact HO.out
 case qc4=>unfold maxLen;omega
 case qc5=>omega
 case qc6=>simp
 intro v' w1 hown hgrow hnil;have hu:ac w w1:=ac.mk (((Below.refl _ w).alloc (Nat.le_refl _) _).grown hgrow (by simp) (by intro k hk;simp[Value.ownBlock]at hk;omega));have HH:=aa (And.intro hown hu);clear hown hu hgrow hnil;go_wp2;go_ret;exact⟨v',rfl,by simpa using HH.out.1,HH.out.2⟩
end
