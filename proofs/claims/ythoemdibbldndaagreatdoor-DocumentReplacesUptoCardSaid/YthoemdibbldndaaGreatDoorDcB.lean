/- The contracts of document's known, ascending and replaced, and of slices.Clone at parts. -/
import Derived.Test.YthoemdibbldndaaGreatDoorDcA
import Derived.Test.YthoemdibbldndaaGreatDoorSBuild
set_option linter.all false
set_option maxHeartbeats 0
set_option maxRecDepth 20000
open Go.Value renaming int->VD,string->VE,slice->VF,bool->VG,pointer->VH,tuple->VI
open Go.IntKind renaming i64->VJ
open Go.Obj renaming cells->VK
open Go.Ending renaming returned->VL
open Option renaming none->VM,some->VN
open Go renaming World->VO
namespace Go.Proofs.YthoemdibbldndaaGreatDoor
open Go.RowKit
section
theorem qu(fmt:Int)(w:VO)(h:fmt=1\/fmt=2\/fmt=3):Calls Tryz.prog 45 #[VD VJ fmt] w λe w'=>e=VL (VG true)/\w=w':=by
 rcases h with rfl|rfl|rfl
 all_goals
  go_enter Tryz.func45,Tryz.ntmps45;go_wp2;go_ret;exact⟨rfl,rfl⟩
def dL(w:VO)(A:Option Addr)(rs:List (Int × Int)):Prop:=
 rs.length > 0->∃b off,A=VN ⟨b,off,VM⟩/\b<w.1.size/\∀j (h:j<rs.length),w.cell? ⟨b,off+j*2,VM⟩=VN (VD VJ rs[j].1)/\w.cell? ⟨b,off+j*2+1,VM⟩=VN (VD VJ rs[j].2)
theorem dL.ah{w w':VO}{A:Option Addr}{rs:List (Int × Int)}(h:dL w A rs)(u:ac w w'):dL w' A rs:=by
 intro h0;obtain⟨b,off,rfl,hb,hc⟩:=h h0;exact⟨b,off,rfl,Nat.lt_of_lt_of_le hb u.size,λj hj=>⟨(u.cell hb).trans (hc j hj).1,(u.cell hb).trans (hc j hj).2⟩⟩
def fS(w:VO)(B:Option Addr)(ts:List (List St.It)):Prop:=
 ts.length > 0->∃b off,B=VN ⟨b,off,VM⟩/\b<w.1.size/\∀j (h:j<ts.length),∃A c,w.cell? ⟨b,off+j,VM⟩=VN (VF A ts[j].length c)/\aE w A ts[j]/\ts[j].length<=c/\c<=9223372036854775807/\(A=VM->c=0)
theorem fS.ah{w w':VO}{B:Option Addr}{ts:List (List St.It)}(h:fS w B ts)(u:ac w w'):fS w' B ts:=by
 intro h0;obtain⟨b,off,rfl,hb,hc⟩:=h h0;refine⟨b,off,rfl,Nat.lt_of_lt_of_le hb u.size,λj hj=>?_⟩;obtain⟨A,c,g0,g1,g2,g3,g4⟩:=hc j hj;exact⟨A,c,(u.cell hb).trans g0,g1.ah u,g2,g3,g4⟩
theorem nO(n:Nat)(at':Int)(rs:List (Int × Int))(k:Nat)(h:k<rs.length):St.dM n at' (rs.drop k)=if rs[k].1<at'\/rs[k].2<rs[k].1\/(n:Int)<rs[k].2 then false else St.dM n rs[k].2 (rs.drop (k+1)):=by
 rw[List.drop_eq_getElem_cons h,St.dM]
def O3(w:VO)(rs:List (Int × Int))(n:Nat)(s5 cW:Value)(wr:VO):Prop:=
 ∃(k:Nat) (a:Int),k<=rs.length/\cW=VD VJ k/\s5=VD VJ a/\St.dM n 0 rs=St.dM n a (rs.drop k)/\ac w wr
theorem Ah(A:Option Addr)(n c L:Nat)(rs:List (Int × Int))(w:VO)(hn:rs.length=n)(h:dL w A rs)(hl:n<=1000000000) :
  Calls Tryz.prog 47 #[VF A n c,VD VJ (L:Int)] w λe w'=>e=VL (VG (St.dM L 0 rs))/\ac w w':=by
 have H:=aa h;have HN:=aa hn;clear h hn;go_enter Tryz.func47,Tryz.ntmps47;go_wp2;go_loopw [5,10] (λs5 cW wr=>O3 w rs L s5 cW wr) (λ_ cW _=>n+1-(intOf cW).toNat)
 case atStart=>exact⟨0,0,by omega,rfl,rfl,by simp,ac.refl _⟩
 case round=>
  obtain⟨k,a,hk,rfl,rfl,has,hu⟩:=hrel;have HU:=aa hu;have HAS:=aa has;have hN:=HN.out;clear hu has
  by_cases hlt:k<n
  ·have aG:k<rs.length:=by omega
   obtain⟨b,off,rfl,hb,hc⟩:=(H.out.ah HU.out) (by omega);obtain⟨c0,c1⟩:=hc k aG;have hd:=nO L a rs k aG;generalize rs[k]=r at c0 c1 hd;obtain⟨p,q⟩:=r;simp only at c0 c1 hd;haveI:af b wr:=af.of hb;have HD:=aa hd;clear hc aG hd
   by_cases h1:p<a
   ·have hf:=aa (show St.dM L 0 rs=false by rw[HAS.out,HD.out,if_pos (.inl h1)]);go_wp2;go_ret;exact⟨ay hf.out.symm,HU.out.trans uZ⟩
   by_cases h2:q<p
   ·have hf:=aa (show St.dM L 0 rs=false by rw[HAS.out,HD.out,if_pos (.inr (.inl h2))]);go_wp2;go_ret;exact⟨ay hf.out.symm,HU.out.trans uZ⟩
   by_cases h3:(L:Int)<q
   ·have hf:=aa (show St.dM L 0 rs=false by rw[HAS.out,HD.out,if_pos (.inr (.inr h3))]);go_wp2;go_ret;exact⟨ay hf.out.symm,HU.out.trans uZ⟩
   have hf:=aa (show St.dM L 0 rs=St.dM L q (rs.drop (k+1))by rw[HAS.out,HD.out,if_neg (by rintro (e|e|e);exact h1 e;exact h2 e;exact h3 e)]);go_wp2;exact⟨⟨k+1,q,by omega,congrArg (VD VJ) (by omega),rfl,hf.out,HU.out.trans uZ⟩,by simp[intOf];omega⟩
  have hkn:k=n:=by omega
  subst hkn;have hf:=aa (show St.dM L 0 rs=true by rw[HAS.out,List.drop_of_length_le (by omega)];rfl);clear hlt;go_wp2;go_ret;exact⟨ay hf.out.symm,HU.out⟩
end
section
theorem dk{P:Program}{ops:Array Oper}{o:Oper}{a:Act}{w:VO}{K:Act->VO->Prop}{Q:Exit->Act->VO->Prop}{E:Prop}
  (hg:o.guard=VM) (f:FuncId) (args:Array Value) (Post:Ending->VO->Prop) (hc:Calls P f args w Post)
  (hrun:(execOp a.eval o).run P w=.ok (.enter f args) w) (hK:∀e w',Post e w'->∃v,e=VL v/\K (a.put o.dst v) w') :
  if Region.wanted o (yielded ops a.tmps)=true then Oper.wp P o a w K Q else E:=by
 have hw:Region.wanted o (yielded ops a.tmps)=true:=by simp[Region.wanted,hg]
 rw[if_pos hw];unfold Oper.wp;rw[hrun];refine hc.mono ?_;intro e w' h;obtain⟨v,rfl,hk⟩:=hK e w' h;exact hk
theorem iJ(a b:List St.It):aP (a++b)=aP a+aP b:=by unfold aP;rw[List.map_append,List.sum_append]
theorem qf(f:List St.It):aP (St.bu f)<=aP f:=by
 have key:∀(n:Nat) (f:List St.It),f.length=n->aP (St.bu f)<=aP f:=by
  intro n
  induction n with
  | zero=>intro f h;rw[List.eq_nil_of_length_eq_zero h];simp[St.bu]
  | succ n ih=>
   intro f h;rcases St.dD f with rfl|⟨a,b,rfl⟩
   ·simp at h
   rw[St.ew,ci];have h1:=gQ (St.bu a) b;have h2:=ih a (by simpa using h);omega
 exact key _ f rfl
theorem oA(a b:Nat):∀(f:List St.It) (m:Nat),aP (St.bi a b m f)<=aP f
 | [],m=>by simp[St.bi]
 | x :: f,m=>by
  rw[St.bi,iJ];have h:=oA a b f (m+St.bG x);have e:aP (x :: f)=x.2.1.length+aP f:=by simp[aP]
  have h1:aP (if x.1=1 then(if max a m-m<min b (m+x.2.1.length)-m then[((1:Int),(x.2.1.take (min b (m+x.2.1.length)-m)).drop (max a m-m),x.2.2)]else[])else(if a<=m/\m<b then[x]else[]))<=x.2.1.length:=by
   repeat' split
   all_goals simp[aP]
   all_goals omega
  omega
theorem BI(f:List St.It)(a:Nat)(O:List St.It)(rs:List (Int × Int))(ts:List (List St.It))(k:Nat)(h:k<rs.length)(h':k<ts.length) :
  St.mr f a O (rs.drop k) (ts.drop k)=St.mr f rs[k].2.toNat (St.bu (St.bu (O++St.bi a rs[k].1.toNat 0 f)++ts[k])) (rs.drop (k+1)) (ts.drop (k+1)):=by
 rw[List.drop_eq_getElem_cons h,List.drop_eq_getElem_cons h',St.mr]
def Kj(w:VO)(f:List St.It)(rs:List (Int × Int))(ts:List (List St.It))(s7 s8 mJ:Value)(wr:VO):Prop:=
 ∃(k a:Nat) (O:List St.It) (A c:_),k<=rs.length/\mJ=VD VJ k/\s8=VD VJ a/\s7=VF A O.length c/\aE wr A O/\(A=VM->O.length=0/\c=0)/\a<=St.aR f/\O.length<=1700*k/\aP O<=200000000*k /\
  St.dM (St.aR f) a (rs.drop k)=true/\St.mr f 0 [] rs ts=St.mr f a O (rs.drop k) (ts.drop k)/\ac w wr
theorem Ge(A B C:Option Addr)(n c m d e0:Nat)(f:List St.It)(rs:List (Int × Int))(ts:List (List St.It))(w:VO)(hn:f.length=n)(hm:rs.length=m)(hm':ts.length=m)(h:aE w A f)(hB:dL w B rs)(hC:fS w C ts)
  (hl:n<=512) (ht:aP f<=100000000) (fj:m<=20) (hts:∀t∈ts,t.length<=1100/\aP t<=100000000) (lW:St.dM (St.aR f) 0 rs=true) :
  Calls Tryz.prog 54 #[VF A n c,VF B m d,VF C m e0] w λe w'=>∃v,e=VL v/\w'.ownsRow w.1.size 36 3 v (St.kt f rs ts).length (av (St.kt f rs ts))/\(St.kt f rs ts).length<=60000/\aP (St.kt f rs ts)<=100000000000/\ac w w':=by
 have H:=aa h;have HN:=aa hn;have HM:=aa hm;have SQ:=aa hm';have HB:=aa hB;have HC:=aa hC;have rm:=aa hts;have HT:=aa ht;have UY:=fW f;have hle:=aa (λ(W:VO) (hW:ac w W)=>kk A n c f W hn (h.ah hW) (by omega) (by omega));have hsl:=aa (λ(W:VO) (hW:ac w W) (a b:Nat) (hab:a<=b) (hbl:b<=St.aR f)=>EJ A n c f a b W hn (h.ah hW) (by omega) (by omega) hab hbl);have rF:=aa lW;clear h hn hm hm' hB hC hts ht lW;obtain⟨L,hL⟩:∃L,L=St.aR f:=⟨_,rfl⟩;go_enter Tryz.func54,Tryz.ntmps54;go_wp2_with fail;go_loopw [7,8,17] (λs7 s8 mJ wr=>Kj w f rs ts s7 s8 mJ wr) (λ_ _ mJ _=>m+1-(intOf mJ).toNat)
 case atStart=>exact⟨0,0,[],VM,0,by omega,rfl,rfl,rfl,λh=>absurd h (by simp),λ_=>⟨rfl,rfl⟩,by omega,by simp,by simp[aP],by simpa using rF.out,by simp,ac.refl _⟩
 case round=>
  obtain⟨k,a,O,A7,c7,hk,rfl,rfl,rfl,hI,hA7,hal,Gw,hOt,has,hrp,hu⟩:=hrel;have HU:=aa hu;have HI:=aa hI;have Fz:=aa hA7;have lL:=aa hrp;have hN:=HN.out;have hM:=HM.out;have UZ:=SQ.out;have hT:=HT.out;clear hu hI hA7 hrp
  by_cases hlt:k<m
  ·have aG:k<rs.length:=by omega
   have dW:k<ts.length:=by omega
   obtain⟨b,off,rfl,hb,hc⟩:=(HB.out.ah HU.out) (by omega);obtain⟨c0,c1⟩:=hc k aG;obtain⟨b2,off2,rfl,hb2,hc2⟩:=(HC.out.ah HU.out) (by omega);obtain⟨At,ct,g0,gI,gn,gc,gA⟩:=hc2 k dW;rw[nO _ _ rs k aG]at has;have eF:=BI f a O rs ts k aG dW;have fl:=rm.out ts[k] (List.getElem_mem dW);generalize rs[k]=r at c0 c1 has eF;generalize ts[k]=t at g0 gI gn eF fl;obtain⟨p,q⟩:=r;simp only at c0 c1 has eF
   split at has
   ·cases has
   rename_i hcond
   obtain⟨p',rfl⟩:∃p':Nat,p=p':=⟨p.toNat,by omega⟩;obtain⟨q',rfl⟩:∃q':Nat,q=q':=⟨q.toNat,by omega⟩;have hap:a<=p':=by omega
   have kM:p'<=q':=by omega
   have GL:q'<=St.aR f:=by omega
   have TI:p'<=St.aR f:=by omega
   simp only[Int.toNat_natCast]at eF;have AC:=qb a p' f 0;have AD:=oA a p' f 0;have br:=aa (λW hW=>hsl.out W hW a p' hap TI);generalize St.bi a p' 0 f=P at eF AC AD br;have fZ:=St.iO (O++P);have ht1:=qf (O++P);rw[iJ]at ht1;have lk:=λ(AP:Option Addr) (cP:Nat) (W:VO) (hW:ac wr W) (lf:AP=VM->P.length=0/\cP=0) (hP:aE W AP P)=>uz A7 AP O.length c7 P.length cP O P W rfl rfl Fz.out lf (HI.out.ah hW) hP (by omega) (by rw[iJ];omega)
   obtain⟨Q1,hQ1⟩:∃Q1,Q1=St.bu (O++P):=⟨_,rfl⟩;rw[<-hQ1]at eF fZ ht1 lk;rw[List.length_append]at fZ;have eV:=St.iO (Q1++t);have ht2:=qf (Q1++t);rw[iJ]at ht2;rw[List.length_append]at eV;have vA:=λ(AQ:Option Addr) (cQ:Nat) (W:VO) (hW:ac wr W) (NF:AQ=VM->Q1.length=0/\cQ=0) (hQ:aE W AQ Q1)=>uz AQ At Q1.length cQ t.length ct Q1 t W rfl rfl NF (λe=>by have:=gA e;omega) hQ (gI.ah hW) (by omega) (by rw[iJ];omega)
   have hfin:∀(A8:Option Addr) (c8:Nat) (W:VO),aE W A8 (St.bu (Q1++t))->(A8=VM->(St.bu (Q1++t)).length=0/\c8=0)->ac w W->Kj w f rs ts (VF A8 (St.bu (Q1++t)).length c8) (VD VJ (q':Int)) (VD VJ ((k:Int)+1)) W:=λA8 c8 W h1 h2 h3=>
    ⟨k+1,q',_,A8,c8,by omega,congrArg (VD VJ) (by omega),rfl,rfl,h1,h2,GL,by omega,by omega,has,by rw[lL.out,eF],h3⟩
   have dq:=aa hfin;have FE:=aa lk;have rk:=aa vA;haveI:af b wr:=af.of hb;haveI:af b2 wr:=af.of hb2;have z1:(k:Int)<(m:Int):=by omega
   clear hc hc2 hcond eF lk vA hfin has gI fZ ht1 eV ht2 AC AD fl aG dW;generalize St.bu (Q1++t)=Q2 at *;go_wp2_with fail;refine(br.out _ (HU.out.trans uZ)).mono ?_;rintro e w3 ⟨vP,rfl,lq,hu3⟩;have bO:ac wr w3:=ac.trans (uZ) hu3;have d0:w3.cell? ⟨wr.1.size,0,VM⟩=VN (VD VJ (p':Int)):=(hu3.cell (p:=⟨wr.1.size,0,VM⟩) (by simp)).trans (by simp);have d1:w3.cell? ⟨wr.1.size,1,VM⟩=VN (VD VJ (q':Int)):=(hu3.cell (p:=⟨wr.1.size,1,VM⟩) (by simp)).trans (by simp);have g3:=(bO.cell (p:=⟨b2,off2+k,VM⟩) hb2).trans g0;obtain⟨AP,cP,rfl,_,_,lf⟩:=aJ lq;have QQ:=aM lq rfl;haveI:af wr.1.size w3:=af.of (cd _ _ d0);haveI:af b2 w3:=af.of (cd _ _ g3);have ba:=aa bO;have HP:=aa QQ
   have uq:AP=VM->P.length=0/\cP=0:=λe=>by
    have:=lf e
    refine⟨?_,this⟩;subst e;rcases lq.2 with⟨e1,e2⟩|⟨g,cap,cur,e1,_⟩
    ·simpa using e2
    cases e1
   generalize wr.1.size=bx at *;clear hu3 bO lq QQ c0 c1 g0 lf;go_wp2_with fail
   go_region_law (first
    | (refine dk rfl 98 #[VF A7 O.length c7,VF AP P.length cP] _ (FE.out AP cP _ (ba.out.trans uZ) uq (HP.out.ah uZ)) ?_ ?_;(· go_simp;done);rintro e w5 ⟨v5,rfl,dy,a8⟩;obtain⟨A5,c5,rfl,_,_,hA5⟩:=aJ dy;refine⟨_,rfl,?_⟩;have g5:=(a8.cell (p:=⟨b2,off2+k,VM⟩) (af.lt inferInstance)).trans g3;have d5:=(a8.cell (p:=⟨bx,1,VM⟩) (af.lt inferInstance)).trans d1;haveI:af b2 w5:=af.of (cd _ _ g5);haveI:af bx w5:=af.of (cd _ _ d5))
    | (refine dk rfl 98 #[VF A5 Q1.length c5,VF At t.length ct] _ (rk.out A5 c5 _ (ba.out.trans (ac.trans (ac.trans uZ a8) uZ)) (λe=>⟨by subst e;rcases dy.2 with⟨e1,e2⟩|⟨g,cap,cur,e1,_⟩<;>simp_all,hA5 e⟩) ((aM dy rfl).ah uZ)) ?_ ?_;(· go_simp;done);rintro e w6 ⟨v6,rfl,tN,dz⟩;obtain⟨A6,c6,rfl,_,_,hA6⟩:=aJ tN;refine⟨_,rfl,?_⟩;have d6:=(dz.cell (p:=⟨bx,1,VM⟩) (af.lt inferInstance)).trans d5;haveI:af bx w6:=af.of (cd _ _ d6)))
   all_goals
    have R4:A6=VM->Q2.length=0/\c6=0:=λe=>⟨by subst e;rcases tN.2 with⟨e1,e2⟩|⟨g,cap,cur,e1,_⟩<;>simp_all,hA6 e⟩
    have HE:=aa (dq.out A6 c6 w6 (aM tN rfl) R4 (HU.out.trans (ba.out.trans (ac.trans (ac.trans uZ a8) (ac.trans uZ dz)))));clear dy tN a8 dz;go_wp2;exact⟨HE.out,by simp[intOf];omega⟩
  have hkn:k=m:=by omega
  subst hkn
  have hrl:St.kt f rs ts=St.bu (O++St.bi a (St.aR f) 0 f):=by
   unfold St.kt;rw[lL.out,List.drop_of_length_le (by omega),List.drop_of_length_le (by omega)];rfl
  have AC:=qb a (St.aR f) f 0;have AD:=oA a (St.aR f) f 0;have br:=aa (λW hW=>hsl.out W hW a (St.aR f) hal (Nat.le_refl _));generalize St.bi a (St.aR f) 0 f=P at hrl AC AD br;have fZ:=St.iO (O++P);have ht1:=qf (O++P);rw[iJ]at ht1;rw[List.length_append]at fZ;have lk:=λ(AP:Option Addr) (cP:Nat) (W:VO) (hW:ac wr W) (lf:AP=VM->P.length=0/\cP=0) (hP:aE W AP P)=>uz A7 AP O.length c7 P.length cP O P W rfl rfl Fz.out lf (HI.out.ah hW) hP (by omega) (by rw[iJ];omega)
  rw[<-hrl]at fZ ht1 lk;have FE:=aa lk;have HL:=aa (hle.out _ HU.out);clear hlt lk hrl has;go_wp2_with fail;refine HL.out.mono ?_;rintro e w2 ⟨rfl,hu2⟩;have aW:=aa hu2;clear hu2;go_wp2_with fail;refine(br.out _ (HU.out.trans aW.out)).mono ?_;rintro e w3 ⟨vP,rfl,lq,hu3⟩;obtain⟨AP,cP,rfl,_,_,lf⟩:=aJ lq;have HP:=aa (aM lq rfl);have ba:=aa (aW.out.trans hu3);have uq:AP=VM->P.length=0/\cP=0:=λe=>⟨by subst e;rcases lq.2 with⟨e1,e2⟩|⟨g,cap,cur,e1,_⟩<;>simp_all,lf e⟩
  clear hu3 lq lf;go_wp2_with fail;refine(FE.out AP cP _ ba.out uq HP.out).mono ?_;rintro e w4 ⟨v4,rfl,iD,aU⟩;have HE:=aa (And.intro (cC iD (by have:=(HU.out.trans ba.out).size;omega)) (HU.out.trans (ba.out.trans aU)));clear iD aU;go_wp2;go_ret;exact⟨_,rfl,HE.out.1,by omega,by omega,HE.out.2⟩
end
section
def pi(b:Nat)(w:VO):Prop:=∃p,(p=VH VM\/p=VH (VN ⟨b,0,VM⟩))/\w.1[b]?=VN (VK #[p,VF VM 0 0] 92 (0,0))
theorem pi.ah{b:Nat}{a c:VO}(h:pi b a)(u:ac a c):pi b c:=by
 obtain⟨p,h1,h2⟩:=h;exact⟨p,h1,(u.below.block b (ae h2)).trans h2⟩
theorem pi.sb{B b:Nat}{w:VO}(h:pi b w)(hB:B<=b):SB B b [] w:=by
 obtain⟨p,h1,h2⟩:=h;rcases h1 with rfl|rfl
 ·exact .inl ⟨hB,_,h2,World.ownsRow_nil _ _ _ _,by simp[Value.ownBlock]⟩
 exact .inr ⟨hB,_,h2,World.ownsRow_nil _ _ _ _,by simp[Value.ownBlock]⟩
theorem yV(B b:Nat)(w:VO)(h:pi b w)(hB:B<=b) :
  Calls Tryz.prog 99 #[VH (VN ⟨b,0,VM⟩)] w λe w'=>e=VL (VI #[])/\w'.1[b]?=VN (VK #[VH (VN ⟨b,0,VM⟩),VF VM 0 0] 92 (0,0))/\Below B w w':=by
 obtain⟨p,h1,h2⟩:=h;rcases h1 with rfl|rfl
 ·refine(oP b w (ai h2 0) (by simp[World.shape?,h2]) (bg h2 0)).mono ?_;rintro e w' ⟨rfl,rfl⟩;exact⟨rfl,heap_setCell_same w b 0 _ _ _ h2,(Below.refl B w).setCell (p:=⟨b,0,VM⟩) hB _⟩
 refine(pK b w (ai h2 0)).mono ?_;rintro e w' ⟨rfl,rfl⟩;exact⟨rfl,h2,Below.refl B _⟩
theorem uW(B b:Nat)(s:ByteArray)(w:VO)(h:pi b w)(hs:s.size=0)(hB:B<=b)(hBw:B<=w.1.size) :
  Calls Tryz.prog 56 #[VH (VN ⟨b,0,VM⟩),VE s] w λe w'=>e=VL (VI #[VD VJ s.size,.nilIface])/\pi b w'/\Below B w w':=by
 obtain⟨i0,hi,hz0,hz1,hz2⟩:=info_parts Dy;go_enter Tryz.func56,Tryz.ntmps56;go_wp2_with (go_at_call 99;refine(yV B b _ h hB).mono ?_);rintro e w1 ⟨rfl,hbk,hb1⟩;have c0:w1.cell? ⟨b,0,VM⟩=VN (VH (VN ⟨b,0,VM⟩)):=by rw[ai hbk];rfl
 have c1:w1.cell? ⟨b,1,VM⟩=VN (VF VM 0 0):=by rw[ai hbk];rfl
 go_wp2_with (at_builtin;refine Lib.wpList_append_own_string _ rfl _ _ 22 9 rfl B 5 i0 Tryz.underlying22 Tryz.underlying9 hi hz0 hz1 hz2 _ _ _ rfl (World.ownsRow_nil _ _ _ _) s rfl ?c3 ?c4 ?c5 ?_)
 case c3=>unfold maxLen;omega
 case c4=>omega
 case c5=>have:=hb1.size;omega
 intro v' w2 hown' hgrow hnil;obtain rfl:v'=VF VM 0 0:=by first|exact hnil|exact hnil.2 ⟨rfl,hs⟩
 have hb2:w2.1[b]?=VN (VK #[VH (VN ⟨b,0,VM⟩),VF VM 0 0] 92 (0,0)):=by
  rw[hgrow.block b (ae hbk) (λe=>by simp[Value.ownBlock]at e)];exact hbk
 have d0:w2.cell? ⟨b,0,VM⟩=VN (VH (VN ⟨b,0,VM⟩)):=by rw[ai hb2];rfl
 have d1:w2.cell? ⟨b,1,VM⟩=VN (VF VM 0 0):=by rw[ai hb2];rfl
 have f1:w2.frozen? ⟨b,1,VM⟩=false:=bg hb2 1
 have hfin:=aa (show pi b (w2.setCell ⟨b,1,VM⟩ (VF VM 0 0))/\Below B w (w2.setCell ⟨b,1,VM⟩ (VF VM 0 0))from
  ⟨⟨_,.inr rfl,heap_setCell_same w2 b 1 _ _ _ hb2⟩,(hb1.grown hgrow (by have:=hb1.size;omega) (λk hk=>by simp[Value.ownBlock]at hk)).setCell (p:=⟨b,1,VM⟩) hB _⟩)
 clear hown' hgrow hnil;go_wp2;go_ret2;exact⟨by first|rfl|(rw[hs];rfl),hfin.out.1,hfin.out.2⟩
def rQ(B b:Nat)(l:List UInt8)(w:VO):Prop:=(l=[]/\pi b w/\B<=b)\/(l≠[]/\SB B b l w)
theorem rQ.ah{B b:Nat}{l:List UInt8}{a c:VO}(h:rQ B b l a)(u:ac a c):rQ B b l c:=by
 rcases h with⟨h1,h2,h3⟩|⟨h1,h2⟩
 ·exact .inl ⟨h1,h2.ah u,h3⟩
 exact .inr ⟨h1,h2.ah u⟩
theorem CA(B b:Nat)(l t:List UInt8)(w:VO)(h:rQ B b l w)(hlen:l.length+t.length<=140737488355328)(hBw:B<=w.1.size) :
  Calls Tryz.prog 56 #[VH (VN ⟨b,0,VM⟩),VE ⟨t.toArray⟩] w λe w'=>e=VL (VI #[VD VJ (t.length:Int),.nilIface])/\rQ B b (l++t) w'/\Below B w w':=by
 have hz:(⟨t.toArray⟩:ByteArray).size=t.length:=by show t.toArray.size=_;simp
 have key:SB B b l w->l++t≠[]->Calls Tryz.prog 56 #[VH (VN ⟨b,0,VM⟩),VE ⟨t.toArray⟩] w λe w'=>e=VL (VI #[VD VJ (t.length:Int),.nilIface])/\rQ B b (l++t) w'/\Below B w w':=λh1 h2=>by
  refine(wl B b l ⟨t.toArray⟩ w h1 (by rw[hz];exact hlen) hBw).mono ?_;rintro e w' ⟨rfl,h3,h4,_⟩;exact⟨by rw[hz],.inr ⟨h2,by simpa using h3⟩,h4⟩
 rcases h with⟨rfl,h2,h3⟩|⟨h1,h2⟩
 ·by_cases ht:t=[]
  ·subst ht;refine(uW B b ⟨#[]⟩ w h2 rfl h3 hBw).mono ?_;rintro e w' ⟨rfl,h4,h5⟩;exact⟨rfl,.inl ⟨rfl,h4,h3⟩,h5⟩
  exact key (h2.sb h3) (by simpa using ht)
 exact key h2 (by simp[h1])
theorem Fa(B b:Nat)(l:List UInt8)(w:VO)(h:rQ B b l w) :
  Calls Tryz.prog 57 #[VH (VN ⟨b,0,VM⟩)] w λe w'=>e=VL (VE ⟨l.toArray⟩)/\Below B w w':=by
 rcases h with⟨rfl,⟨p,_,h2⟩,_⟩|⟨h1,h2⟩
 ·exact BR B b p w h2
 exact BQ B b l w h2 h1
def Ki(w:VO)(b:Nat)(ps:List St.Pt)(n:Nat)(s9:Value)(wr:VO):Prop:=
 ∃k:Nat,k<=n/\s9=VD VJ k/\rQ w.1.size b (St.bp (ps.take k)) wr/\ac w wr
theorem uN(ps:List St.Pt)(k:Nat)(h:k<ps.length):St.bp (ps.take (k+1))=St.bp (ps.take k)++ps[k].2.2:=by
 unfold St.bp;rw[List.take_add_one,List.getElem?_eq_getElem h,List.flatMap_append];simp
theorem pw(ps:List St.Pt)(k:Nat):(St.bp (ps.take k)).length<=(St.bp ps).length:=by
 have e:St.bp ps=St.bp (ps.take k)++St.bp (ps.drop k):=by
  conv=>lhs;rw[<-List.take_append_drop k ps]
  unfold St.bp;rw[List.flatMap_append]
 rw[e,List.length_append];omega
theorem qp(fmt:Int)(A:Option Addr)(n c:Nat)(ps:List St.Pt)(w:VO)(hn:ps.length=n)(h:aY w A ps)(hl:n<=9223372036854775807)(hr:(St.bp ps).length<=1000000000) :
  Calls Tryz.prog 17 #[.agg #[VD VJ fmt,VF A n c]] w λe w'=>e=VL (VE ⟨(St.bp ps).toArray⟩)/\ac w w':=by
 have H:=aa h;have HN:=aa hn;have HR:=aa hr;clear h hn hr;go_enter Tryz.func17,Tryz.ntmps17;go_wp2_with fail;go_loopw [9] (λs9 wr=>Ki w (w.1.size+1) ps n s9 wr) (λs9 _=>n+1-(intOf s9).toNat)
 case atStart=>
  refine⟨0,by omega,rfl,.inl ⟨rfl,⟨VH VM,.inl rfl,?_⟩,by omega⟩,uZ⟩;have:=heap_alloc_new (w.alloc (VK #[VD VJ fmt,VF A n c] 25)) (VK #[VH VM,VF VM 0 0] 92)
  simpa using this
 case round=>
  obtain⟨k,hk,rfl,mX,hu⟩:=hrel;have HU:=aa hu;have xB:=aa mX;have hN:=HN.out;have hR:=HR.out;have hsz:=hu.size;clear hu mX
  by_cases hlt:k<n
  ·have aG:k<ps.length:=by omega
   obtain⟨b,off,rfl,hb,hc⟩:=(H.out.ah HU.out) (by omega);obtain⟨c0,c1,c2⟩:=hc k aG;have hrt:=uN ps k aG;have h1:=pw ps (k+1);generalize ps[k]=x at c0 c1 c2 hrt;obtain⟨xu,xk,xr⟩:=x;simp only at c0 c1 c2 hrt;rw[hrt,List.length_append]at h1;have hwr:=aa (λ(W:VO) (hW:ac wr W)=>CA w.1.size (w.1.size+1) (St.bp (ps.take k)) xr W (xB.out.ah hW) (by omega) (by have:=hW.size;omega));rw[<-hrt]at hwr;haveI:af b wr:=af.of hb;clear hc aG hrt;go_wp2_with fail;refine(hwr.out _ uZ).mono ?_;rintro e w3 ⟨rfl,h3,h4⟩;have HE:=aa (show Ki w (w.1.size+1) ps n (VD VJ ((k:Int)+1)) w3 from⟨k+1,by omega,congrArg (VD VJ) (by omega),h3,ac.mk (((HU.out.trans uZ).below).trans h4)⟩);clear h3 h4;go_wp2;exact⟨HE.out,by simp[intOf];omega⟩
  have hkn:k=n:=by omega
  subst hkn;have hft:ps.take k=ps:=List.take_of_length_le (by omega);rw[hft]at xB;have hst:=aa (Fa w.1.size (w.1.size+1) (St.bp ps) wr xB.out);clear hlt hft;go_wp2_with fail;refine hst.out.mono ?_;rintro e w3 ⟨rfl,h4⟩;have HE:=aa (ac.mk (HU.out.below.trans h4));clear h4;go_wp2;go_ret;exact⟨rfl,HE.out⟩
end
section
structure rR (w0:VO) (fmt:Int) (S:List UInt8->List St.Pt × Nat × Int):Prop where
 kn:fmt=1\/fmt=2\/fmt=3
 spl:∀(d:ByteArray) (w:VO),ac w0 w->d.size<=1000000000->Calls Tryz.prog 46 #[VD VJ fmt,VE d] w λe w'=>∃A c,e=VL (VI #[VF A (S d.1.1).1.length c,VD VJ ((S d.1.1).2.1:Int),VD VJ (S d.1.1).2.2])/\aY w' A (S d.1.1).1/\(S d.1.1).1.length<=c/\c<=9223372036854775807/\ac w w'
theorem rR.ah{a c:VO}{fmt:Int}{S:List UInt8->List St.Pt × Nat × Int}(h:rR a fmt S)(u:ac a c):rR c fmt S:=⟨h.kn,λd w hw=>h.spl d w (u.trans hw)⟩
structure lR (w0:VO) (fmt:Int) (D:List UInt8->St.gM) (S:List UInt8->List St.Pt × Nat × Int):Prop where
 kn:fmt=1\/fmt=2\/fmt=3
 spl:∀(d:ByteArray) (w:VO),ac w0 w->d.size<=1000000000->Calls Tryz.prog 46 #[VD VJ fmt,VE d] w λe w'=>∃A c,e=VL (VI #[VF A (S d.1.1).1.length c,VD VJ ((S d.1.1).2.1:Int),VD VJ (S d.1.1).2.2])/\aY w' A (S d.1.1).1/\(S d.1.1).1.length<=c/\c<=9223372036854775807/\ac w w'
 dec:∀(d:ByteArray) (w:VO),ac w0 w->d.size<=1000000000->Calls Tryz.prog 51 #[VD VJ fmt,VE d] w λe w'=>∃A c,e=VL (VI #[VF A (D d.1.1).1.length c,VD VJ (D d.1.1).2.2.2])/\aE w' A (D d.1.1).1/\(D d.1.1).1.length<=c/\c<=9223372036854775807/\ac w w'
 cut:∀(d:ByteArray) (w:VO),ac w0 w->d.size<=1000000000->Calls Tryz.prog 49 #[VD VJ fmt,VE d] w λe w'=>∃A c,e=VL (VI #[VF A (D d.1.1).2.1.length c,VD VJ (D d.1.1).2.2.2])/\iz w' A (D d.1.1).2.1/\(D d.1.1).2.1.length<=c/\c<=9223372036854775807/\ac w w'
 enc:∀(A:Option Addr) (n c:Nat) (f:List St.It) (w:VO),ac w0 w->f.length=n->n<=c->c<=9223372036854775807->aE w A f->n<=1000000000->aP f<=1000000000000->Calls Tryz.prog 50 #[VD VJ fmt,VF A n c] w λe w'=>e=VL (VI #[VE ⟨(St.bj fmt f).1.toArray⟩,VD VJ (St.bj fmt f).2])/\ac w w'
 ok:∀d,(D d).2.2.2=0->St.uX d.length (D d)
theorem lR.sp{a:VO}{fmt:Int}{D:List UInt8->St.gM}{S:List UInt8->List St.Pt × Nat × Int}(h:lR a fmt D S):rR a fmt S:=⟨h.kn,h.spl⟩
theorem lR.ah{a c:VO}{fmt:Int}{D:List UInt8->St.gM}{S:List UInt8->List St.Pt × Nat × Int}(h:lR a fmt D S)(u:ac a c):lR c fmt D S:=
 ⟨h.kn,λd w hw=>h.spl d w (u.trans hw),λd w hw=>h.dec d w (u.trans hw),λd w hw=>h.cut d w (u.trans hw),λA n c f w hw=>h.enc A n c f w (u.trans hw),h.ok⟩
theorem iP{W:VO}{A:Option Addr}{ps:List St.Pt}{g:Nat}{i:Int}{a:Option Addr}{n c:Nat}(h:aY W A ps)(hg:W.1[g]?=VN (VK #[VD VJ i,VF a n c] 25 (0,0)))(u v:Value) :
  aY ((W.setCell ⟨g,0,VM⟩ u).setCell ⟨g,1,VM⟩ v) A ps:=by
 intro h0;obtain⟨b,off,rfl,hb,hc⟩:=h h0
 have hne:b≠g:=by
  intro e;subst e;have h1:=(hc 0 h0).1;rw[ai hg]at h1
  match hm:off+0*3,h1 with
  | 0,h1=>simp at h1
  | 1,h1=>simp at h1
  | k+2,h1=>simp at h1
 have hbl:∀off',((W.setCell ⟨g,0,VM⟩ u).setCell ⟨g,1,VM⟩ v).cell? ⟨b,off',VM⟩=W.cell? ⟨b,off',VM⟩:=λoff'=>
  World.cell?_of_block (a:=⟨b,off',VM⟩) ((Below.heap_setCell _ ⟨g,1,VM⟩ v b hne).trans (Below.heap_setCell W ⟨g,0,VM⟩ u b hne))
 refine⟨b,off,rfl,by simpa using hb,λj hj=>?_⟩;rw[hbl,hbl,hbl];exact hc j hj
section
variable {fmt:Int} {D:List UInt8->St.gM} {S:List UInt8->List St.Pt × Nat × Int}
def ud(fmt:Int)(R:List St.Pt × Nat × Int)(w:VO)(e:Ending)(w':VO):Prop:=
 ac w w'/\((R.2.2=0/\∃A c,e=VL (VI #[.agg #[VD VJ fmt,VF A R.1.length c],VD VJ 0,VD VJ 0])/\aY w' A R.1/\R.1.length<=c/\c<=9223372036854775807)\/
  (R.2.2≠0/\e=VL (VI #[.agg #[VD VJ 0,VF VM 0 0],VD VJ (R.2.1:Int),VD VJ R.2.2])))
theorem xN(d:ByteArray)(w:VO)(hF:rR w fmt S)(hd:d.size<=1000000000):Calls Tryz.prog 14 #[VD VJ fmt,VE d] w (ud fmt (S d.1.1) w):=by
 have HK:=aa (λW=>qu fmt W hF.kn);have HS:=aa (λW (hW:ac w W)=>hF.spl d W hW hd);generalize S d.1.1=R at HS |-;obtain⟨ps,pl,er⟩:=R;clear hF;go_enter Tryz.func14,Tryz.ntmps14;go_wp2_with fail;refine(HK.out _).mono ?_;rintro e w2 ⟨rfl,rfl⟩;go_wp2_with fail;refine(HS.out _ uZ).mono ?_;rintro e w3 ⟨A,c,rfl,hP,h1,h2,hu⟩;have hu':ac w w3:=ac.trans (uZ) hu;have hb3:=(hu.below.block w.1.size (by simp)).trans (heap_alloc_new w (VK #[VD VJ 0,VF VM 0 0] 25));have d0:w3.cell? ⟨w.1.size,0,VM⟩=VN (VD VJ 0):=ai hb3 0;have d1:w3.cell? ⟨w.1.size,1,VM⟩=VN (VF VM 0 0):=ai hb3 1;have f0:w3.frozen? ⟨w.1.size,0,VM⟩=false:=bg hb3 0;have f1:w3.frozen? ⟨w.1.size,1,VM⟩=false:=bg hb3 1;haveI:af w.1.size w3:=af.of (ae hb3);have kA:∀u v,ac w ((w3.setCell ⟨w.1.size,0,VM⟩ u).setCell ⟨w.1.size,1,VM⟩ v):=λu v=>ac.mk ((hu'.below.setCell (p:=⟨w.1.size,0,VM⟩) (Nat.le_refl _) u).setCell (p:=⟨w.1.size,1,VM⟩) (Nat.le_refl _) v)
 have zO:=aa kA;have M6:=aa (λu v=>iP hP hb3 u v);simp only at h1 |-;clear hu hu' hb3 kA hP
 by_cases he:er=0
 ·subst he;go_wp2;refine bodyPost_ret (v:=VI #[.agg #[VD VJ fmt,VF A ps.length c],VD VJ 0,VD VJ 0]) ?_ rfl ?_
  ·simp[results,Tryz.results14,go_sem,d0,d1]
  exact⟨zO.out _ _,.inl ⟨rfl,A,c,rfl,M6.out _ _,h1,h2⟩⟩
 have z1:(er==0)=false:=by simpa using he
 have z2:(er != 0)=true:=by simpa using he
 have HE:=aa he;clear he;go_wp2;refine bodyPost_ret (v:=VI #[.agg #[VD VJ 0,VF VM 0 0],VD VJ pl,VD VJ er]) ?_ rfl ?_
 ·simp[results,Tryz.results14,go_sem,d0,d1]
 exact⟨zO.out _ _,.inr ⟨HE.out,rfl⟩⟩
theorem D7(d:ByteArray)(w:VO)(hF:lR w fmt D S)(hd:d.size<=1000000000):Calls Tryz.prog 14 #[VD VJ fmt,VE d] w (ud fmt (S d.1.1) w):=xN d w hF.sp hd
end
end
section
variable {fmt:Int} {D:List UInt8->St.gM} {S:List UInt8->List St.Pt × Nat × Int}
theorem pZ(ps:List St.Pt)(k:Nat)(h:k<ps.length):ps[k].2.2.length<=(St.bp ps).length:=by
 have h1:=pw ps (k+1);rw[uN ps k h,List.length_append]at h1;omega
def dp(R:St.gM)(w:VO)(e:Ending)(w':VO):Prop:=
 ∃A c,e=VL (VI #[VF A R.1.length c,VD VJ R.2.2.2])/\aE w' A R.1/\R.1.length<=c/\c<=9223372036854775807/\ac w w'
theorem dp.fX{R:St.gM}{w w':VO}(h:R=([],[],0,6))(u:ac w w'):dp R w (VL (VI #[VF VM 0 0,VD VJ 6])) w':=by
 subst h;exact⟨VM,0,rfl,λh=>absurd h (by simp),by simp,by omega,u⟩
theorem oO{ps:List St.Pt}{k:Int}(h:St.io ps k=(false,[],[])):St.bL D ps k=([],[],0,6):=by unfold St.bL;rw[h];rfl
theorem IR(A:Option Addr)(n c:Nat)(ps:List St.Pt)(k:Int)(w:VO)(hk:fmt=1\/fmt=2\/fmt=3)(hD:∀(d:ByteArray) (W:VO),ac w W->d.size<=1000000000->Calls Tryz.prog 51 #[VD VJ fmt,VE d] W (dp (D d.1.1) W))(hn:ps.length=n)(h:aY w A ps)(hl:n<=9223372036854775807)(hr:(St.bp ps).length<=1000000000) :
  Calls Tryz.prog 26 #[.agg #[VD VJ fmt,VF A n c],VD VJ k] w (dp (St.bL D ps k) w):=by
 have HK:=aa (λW=>qu fmt W hk);have HD:=aa hD;have H:=aa h;have HN:=aa hn;have HR:=aa hr;clear hk hD h hn hr
 by_cases k0:k<0
 ·have hm:=aa (show St.bL D ps k=([],[],0,6)from oO (by unfold St.io;rw[if_neg (by omega)]));go_enter Tryz.func26,Tryz.ntmps26;go_wp2_with fail;refine(HK.out _).mono ?_;rintro e w2 ⟨rfl,rfl⟩;go_wp2;go_ret2;exact dp.fX hm.out uZ
 obtain⟨j,rfl⟩:∃j:Nat,k=j:=⟨k.toNat,by omega⟩
 by_cases kn:j<n
 ·have hj:j<ps.length:=by rw[HN.out];exact kn
  obtain⟨b,off,rfl,hb,hc⟩:=H.out (by omega);obtain⟨c0,c1,c2⟩:=hc j hj;have hpt:St.io ps (j:Int)=ps[j]:=by unfold St.io;rw[if_pos (by omega),Int.toNat_natCast,List.getElem?_eq_getElem hj];rfl
  have hrl:=pZ ps j hj;have j6:St.bL D ps (j:Int)=if ps[j].1=true then D ps[j].2.2 else([],[],0,6):=by unfold St.bL;rw[hpt]
  generalize ps[j]=x at c0 c1 c2 hrl j6;obtain⟨xu,xk,xr⟩:=x;simp only at c0 c1 c2 hrl j6;haveI:af b w:=af.of hb;have hR:=HR.out;have z1:¬(n:Int)<=(j:Int):=by omega
  have z2:(j:Int)<(n:Int):=by omega
  have z3:¬(j:Int)<0:=by omega
  have FF:=aa j6;clear hc hj hpt k0 j6;cases xu
  ·have hm:=aa (show St.bL D ps (j:Int)=([],[],0,6)by rw[FF.out];rfl);go_enter Tryz.func26,Tryz.ntmps26;go_wp2_with fail;refine(HK.out _).mono ?_;rintro e w2 ⟨rfl,rfl⟩;go_wp2;go_ret2;exact dp.fX hm.out uZ
  have hm:=aa (show St.bL D ps (j:Int)=D xr by rw[FF.out];rfl);have eK:=aa (λW hW=>HD.out ⟨xr.toArray⟩ W hW (by show xr.toArray.size<=_;simp;omega));go_enter Tryz.func26,Tryz.ntmps26;go_wp2_with fail;refine(HK.out _).mono ?_;rintro e w2 ⟨rfl,rfl⟩;go_wp2_with fail;go_region_law (refine dk rfl 51 #[VD VJ fmt,VE ⟨xr.toArray⟩] _ (eK.out _ uZ) ?_ ?_;(· go_simp;done);rintro e w3 ⟨A3,c3,rfl,hI,h1,h2,hu⟩;refine⟨_,rfl,?_⟩)
  all_goals
   have HE:=aa (show dp (D xr) w (VL (VI #[VF A3 (D xr).1.length c3,VD VJ (D xr).2.2.2])) w3 from⟨A3,c3,rfl,hI,h1,h2,ac.trans (uZ) hu⟩);clear hI h1 h2 hu;go_wp2;go_ret2;rw[hm.out];exact HE.out
 have hm:=aa (show St.bL D ps (j:Int)=([],[],0,6)from oO (by
  unfold St.io
  rw[if_pos (by omega),Int.toNat_natCast,List.getElem?_eq_none (by rw[HN.out];omega)];rfl))
 have z1:(n:Int)<=(j:Int):=by omega
 have z3:¬(j:Int)<0:=by omega
 go_enter Tryz.func26,Tryz.ntmps26;go_wp2_with fail;refine(HK.out _).mono ?_;rintro e w2 ⟨rfl,rfl⟩;go_wp2;go_ret2;exact dp.fX hm.out uZ
theorem xL(A:Option Addr)(n c:Nat)(ps:List St.Pt)(k:Int)(w:VO)(hF:lR w fmt D S)(hn:ps.length=n)(h:aY w A ps)(hl:n<=9223372036854775807)(hr:(St.bp ps).length<=1000000000) :
  Calls Tryz.prog 26 #[.agg #[VD VJ fmt,VF A n c],VD VJ k] w (dp (St.bL D ps k) w):=
 IR A n c ps k w hF.kn (λd W hW hd=>hF.dec d W hW hd) hn h hl hr
end
section
theorem np{V W:VO}{A:Option Addr}{ps:List St.Pt}{i:Int}{a:Option Addr}{n c:Nat}(h:aY W A ps)(u':ac (V.alloc (VK #[VD VJ i,VF a n c] 25)) W)(u v:Value) :
  aY ((W.setCell ⟨V.1.size,0,VM⟩ u).setCell ⟨V.1.size,1,VM⟩ v) A ps:=
 iP h ((u'.below.block V.1.size (by simp)).trans (heap_alloc_new V (VK #[VD VJ i,VF a n c] 25))) u v
variable {fmt:Int} {D:List UInt8->St.gM} {S:List UInt8->List St.Pt × Nat × Int}
theorem Gf(A:Option Addr)(n c:Nat)(ps:List St.Pt)(w:VO)(hF:rR w fmt S)(hn:ps.length=n)(hnc:n<=c)(cN:c<=9223372036854775807)(h:aY w A ps)(hl:n<=9223372036854775807)(hr:(St.bp ps).length<=1000000000) :
  Calls Tryz.prog 23 #[.agg #[VD VJ fmt,VF A n c]] w λe w'=>e=VL (VD VJ (St.eZ S ps))/\ac w w':=by
 have HK:=aa (λW=>qu fmt W hF.kn);have HB:=aa (λW (hW:ac w W)=>qp fmt A n c ps W hn (h.ah hW) hl hr);have HP:=aa (λW (hW:ac w W)=>xN ⟨(St.bp ps).toArray⟩ W (hF.ah hW) (by show(St.bp ps).toArray.size<=_;simpa using hr));have H:=aa h;have HN:=aa hn;have hv:St.eZ S ps=if(S (St.bp ps)).2.2=0/\(S (St.bp ps)).1=ps then 0 else 11:=rfl
 have qA:(⟨(St.bp ps).toArray⟩:ByteArray).1.1=St.bp ps:=by simp
 rw[qA]at HP;generalize(⟨(St.bp ps).toArray⟩:ByteArray)=dS at HB HP;generalize S (St.bp ps)=R at hv HP;obtain⟨qs,pl,er⟩:=R;simp only at hv;have HV:=aa hv;clear hF h hn hr hv qA
 by_cases he:er=0
 ·subst he;have hpe:Hid (∀(W:VO),ac w W->Calls Tryz.prog 14 #[VD VJ fmt,VE dS] W λe w'=>∃A' c',e=VL (VI #[.agg #[VD VJ fmt,VF A' qs.length c'],VD VJ 0,VD VJ 0])/\aY w' A' qs/\qs.length<=c'/\c'<=9223372036854775807/\ac W w'):=aa λW hW=>(HP.out W hW).mono λe w' ⟨hu,h⟩=>by
   rcases h with⟨_,A',c',h1,h2,h3,h4⟩|⟨h0,_⟩
   ·exact⟨A',c',h1,h2,h3,h4,hu⟩
   exact absurd rfl h0
  clear HP;go_enter Tryz.func23,Tryz.ntmps23;go_wp2_with fail;refine(HK.out _).mono ?_;rintro e w2 ⟨rfl,rfl⟩;go_wp2_with fail
  go_region_law (first
   | (refine dk rfl 17 #[.agg #[VD VJ fmt,VF A n c]] _ (HB.out _ uZ) ?_ ?_;(· go_simp;done);rintro e w5 ⟨rfl,X5,rfl⟩;refine⟨_,rfl,?_⟩)
   | (refine dk rfl 14 #[VD VJ fmt,VE dS] _ (hpe.out _ uZ) ?_ ?_;(· go_simp;done);rintro e w6 ⟨A6,c6,rfl,hP6,h61,Ay,X6,rfl⟩;refine⟨_,rfl,?_⟩))
  all_goals
   go_wp2_with fail;have hcall:=λW (hW:ac w W) (hP:aY W A6 qs)=>BU A6 A qs.length n c6 c qs ps W rfl HN.out h61 hnc Ay cN hP (H.out.ah hW)
   refine(hcall _ uZ ?_).mono ?_
   ·try rw[under_under]at hP6
    first
     | (refine hP6.ah ?_;(repeat (first|exact ac.refl _|assumption|refine ac.under ?_ _|refine ac.alloc ?_ _|refine ac.drew ?_|refine ac.drewN ?_ _));done)
     | (have q:=np (V:=(under (w.alloc (VK #[VD IntKind.i64 fmt,VF A n c] 25)).drew X5)) (i:=0) (a:=VM) (n:=0) (c:=0) hP6 uZ (VD VJ fmt) (VF A6 qs.length c6);simpa[go_sem]using q)
     | (have q:=np (V:=w.alloc (VK #[VD IntKind.i64 fmt,VF A n c] 25)) (i:=0) (a:=VM) (n:=0) (c:=0) hP6 uZ (VD VJ fmt) (VF A6 qs.length c6);simpa[go_sem]using q)
   rintro e w7 ⟨rfl,X7,rfl⟩;obtain⟨b,hb⟩:∃b,b=decide (qs=ps):=⟨_,rfl⟩;have oE:=aa hb;rw[<-hb];clear hb hP6;cases b
   ·go_wp2;go_ret;rw[HV.out,if_neg (λhh=>of_decide_eq_false oE.out.symm hh.2)];exact⟨rfl,uZ⟩
   go_wp2;go_ret;rw[HV.out,if_pos ⟨trivial,of_decide_eq_true oE.out.symm⟩];exact⟨rfl,uZ⟩
 have z1:(er==0)=false:=by simpa using he
 have z2:(er != 0)=true:=by simpa using he
 have HE:=aa he
 have hpe:Hid (∀(W:VO),ac w W->Calls Tryz.prog 14 #[VD VJ fmt,VE dS] W λe w'=>e=VL (VI #[.agg #[VD VJ 0,VF VM 0 0],VD VJ (pl:Int),VD VJ er])/\ac W w'):=aa λW hW=>(HP.out W hW).mono λe w' ⟨hu,h⟩=>by
  rcases h with⟨h0,_⟩|⟨_,h1⟩
  ·exact absurd h0 he
  exact⟨h1,hu⟩
 clear HP he;go_enter Tryz.func23,Tryz.ntmps23;go_wp2_with fail;refine(HK.out _).mono ?_;rintro e w2 ⟨rfl,rfl⟩;go_wp2_with fail
 go_region_law (first
  | (refine dk rfl 17 #[.agg #[VD VJ fmt,VF A n c]] _ (HB.out _ uZ) ?_ ?_;(· go_simp;done);rintro e w5 ⟨rfl,X5,rfl⟩;refine⟨_,rfl,?_⟩)
  | (refine dk rfl 14 #[VD VJ fmt,VE dS] _ (hpe.out _ uZ) ?_ ?_;(· go_simp;done);rintro e w6 ⟨rfl,X6,rfl⟩;refine⟨_,rfl,?_⟩))
 all_goals
  go_wp2;go_ret;rw[HV.out,if_neg (λhh=>HE.out hh.1)];exact⟨rfl,uZ⟩
theorem vq(A:Option Addr)(n c:Nat)(ps:List St.Pt)(w:VO)(hF:lR w fmt D S)(hn:ps.length=n)(hnc:n<=c)(cN:c<=9223372036854775807)(h:aY w A ps)(hl:n<=9223372036854775807)(hr:(St.bp ps).length<=1000000000) :
  Calls Tryz.prog 23 #[.agg #[VD VJ fmt,VF A n c]] w λe w'=>e=VL (VD VJ (St.eZ S ps))/\ac w w':=Gf A n c ps w hF.sp hn hnc cN h hl hr
end
section
theorem vl(f:List St.Pt)(j:Nat)(u:Value)(h:(bD f)[j]?=VN u):∃k,∃hk:k<f.length,(j=k*3/\u=VG f[k].1)\/(j=k*3+1/\u=VE ⟨f[k].2.1.toArray⟩)\/(j=k*3+2/\u=VE ⟨f[k].2.2.toArray⟩):=by
 have hlen:∀g:List St.Pt,(bD g).length=g.length*3:=by
  intro g
  induction g with
  | nil=>rfl
  | cons x g ih=>simp only[bD,List.flatMap_cons,List.length_append,List.length_cons,List.length_nil]at ih |-;omega
 have hj:j<(bD f).length:=(List.getElem?_eq_some_iff.1 h).1;rw[hlen]at hj;have hk:j / 3<f.length:=by omega
 obtain⟨a,b,c⟩:=xH f (j / 3) hk;refine⟨j / 3,hk,?_⟩;rcases(show j=j / 3*3\/j=j / 3*3+1\/j=j / 3*3+2 by omega)with e|e|e
 ·rw[<-e,h]at a;exact .inl ⟨e,Option.some.inj a⟩
 ·rw[<-e,h]at b;exact .inr (.inl ⟨e,Option.some.inj b⟩)
 rw[<-e,h]at c;exact .inr (.inr ⟨e,Option.some.inj c⟩)
theorem kq(g:List St.Pt):(bD g).length=g.length*3:=by
 induction g with
 | nil=>rfl
 | cons x g ih=>simp only[bD,List.flatMap_cons,List.length_append,List.length_cons,List.length_nil]at ih |-;omega
theorem Fb(b off n c:Nat)(ps:List St.Pt)(w:VO)(hn:ps.length=n)(hb:b<w.1.size)(h:∀j (h:j<ps.length),w.cell? ⟨b,off+j*3,VM⟩=VN (VG ps[j].1)/\w.cell? ⟨b,off+j*3+1,VM⟩=VN (VE ⟨ps[j].2.1.toArray⟩)/\w.cell? ⟨b,off+j*3+2,VM⟩=VN (VE ⟨ps[j].2.2.toArray⟩))(hl:n<=1000000000) :
  Calls Tryz.prog 55 #[VF (VN ⟨b,off,VM⟩) n c] w λe w'=>∃v,e=VL v/\w'.ownsRow w.1.size 64 3 v n (bD ps)/\ac w w':=by
 obtain⟨i0,hi,hz0,hz1,hz2⟩:=info_parts kO;have q:=λ(w:World) (a:Option Addr) (n c n' c':Nat)=>Lib.run_eql_slice_nil w 23 64 a n c n' c' Tryz.underlying23
 have hcells:∀(w1:VO),ac w w1->∀j u,(bD ps)[j]?=VN u->w1.cell? ((⟨b,off,VM⟩:Addr).add j)=VN u:=λw1 hu j u hj=>by
  rw[Addr.add_lit];obtain⟨k,hk,h1⟩:=vl ps j u hj;obtain⟨c0,c1,c2⟩:=h k hk;rcases h1 with⟨rfl,rfl⟩|⟨rfl,rfl⟩|⟨rfl,rfl⟩
  ·exact(hu.cell hb).trans c0
  ·exact(hu.cell hb).trans c1
  exact(hu.cell hb).trans c2
 have hone:∀u∈bD ps,u.oneCell'=true:=λu hu=>by
  unfold bD at hu;obtain⟨x,_,hx⟩:=List.mem_flatMap.1 hu;simp only[List.mem_cons,List.not_mem_nil,or_false]at hx;rcases hx with rfl|rfl|rfl<;>rfl
 have HC:=aa hcells;have HO:=aa hone;have hlen:=aa (show(bD ps).length=n*3 by rw[kq,hn]);clear hcells hone h;go_enter Tryz.func55,Tryz.ntmps55;go_wp2_with (at_builtin;refine wpList_append_own _ rfl _ _ 23 rfl w.1.size 64 i0 (.agg #[.bool false,.string ⟨#[]⟩,.string ⟨#[]⟩]) 3 40 Tryz.underlying23 hi hz0 hz1 hz2 rfl (by decide) _ _ _ rfl (World.ownsRow_made w #[] 0 (Nat.le_refl _) (Nat.zero_le _) rfl) ⟨b,off,none⟩ n c (bD ps) rfl ?qc1 ?qc2 ?qc3 ?qc4 ?qc5 ?qc6 ?_)
 case qc1=>exact hlen.out
 case qc2=>exact HC.out _ uZ
 case qc3=>exact HO.out
 case qc4=>unfold maxLen;omega
 case qc5=>omega
 case qc6=>simp
 intro v' w1 hown hgrow hnil;have hu:ac w w1:=ac.mk (((Below.refl _ w).alloc (Nat.le_refl _) _).grown hgrow (by simp) (by intro k hk;simp[Value.ownBlock]at hk;omega));have HH:=aa (And.intro hown hu);clear hown hu hgrow hnil;go_wp2;go_ret;exact⟨v',rfl,by simpa using HH.out.1,HH.out.2⟩
end
