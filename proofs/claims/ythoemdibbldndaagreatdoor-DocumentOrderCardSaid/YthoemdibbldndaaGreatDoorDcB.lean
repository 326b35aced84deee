/- The contracts of document's known, ascending and replaced, and of slices.Clone at parts. -/
import Derived.Test.YthoemdibbldndaaGreatDoorDcA
import Derived.Test.YthoemdibbldndaaGreatDoorSBuild
set_option linter.all false
set_option maxHeartbeats 0
set_option maxRecDepth 20000
open Go.Value renaming int->Yp,string->Yq,slice->Yr,bool->Ys,pointer->Yt,tuple->Yu
open Go.IntKind renaming i64->Yv
open Go.Obj renaming cells->Yw
open Go.Ending renaming returned->Yx
open Option renaming none->Yy,some->Yz
open Go renaming World->YA
namespace Go.Proofs.YthoemdibbldndaaGreatDoor
open Go.RowKit
section
theorem rX(fmt:Int)(w:YA)(h:fmt=1\/fmt=2\/fmt=3):Calls Tryz.prog 45 #[Yp Yv fmt] w λe w'=>e=Yx (Ys true)/\w=w':=by
 rcases h with rfl|rfl|rfl
 all_goals
  go_enter Tryz.func45,Tryz.ntmps45;go_wp2;go_ret;exact⟨rfl,rfl⟩
def eC(w:YA)(A:Option Addr)(rs:List (Int × Int)):Prop:=
 rs.length > 0->∃b off,A=Yz ⟨b,off,Yy⟩/\b<w.1.size/\∀j (h:j<rs.length),w.cell? ⟨b,off+j*2,Yy⟩=Yz (Yp Yv rs[j].1)/\w.cell? ⟨b,off+j*2+1,Yy⟩=Yz (Yp Yv rs[j].2)
theorem eC.ai{w w':YA}{A:Option Addr}{rs:List (Int × Int)}(h:eC w A rs)(u:ac w w'):eC w' A rs:=by
 intro h0;obtain⟨b,off,rfl,hb,hc⟩:=h h0;exact⟨b,off,rfl,Nat.lt_of_lt_of_le hb u.size,λj hj=>⟨(u.cell hb).trans (hc j hj).1,(u.cell hb).trans (hc j hj).2⟩⟩
def gk(w:YA)(B:Option Addr)(ts:List (List St.It)):Prop:=
 ts.length > 0->∃b off,B=Yz ⟨b,off,Yy⟩/\b<w.1.size/\∀j (h:j<ts.length),∃A c,w.cell? ⟨b,off+j,Yy⟩=Yz (Yr A ts[j].length c)/\aJ w A ts[j]/\ts[j].length<=c/\c<=9223372036854775807/\(A=Yy->c=0)
theorem gk.ai{w w':YA}{B:Option Addr}{ts:List (List St.It)}(h:gk w B ts)(u:ac w w'):gk w' B ts:=by
 intro h0;obtain⟨b,off,rfl,hb,hc⟩:=h h0;refine⟨b,off,rfl,Nat.lt_of_lt_of_le hb u.size,λj hj=>?_⟩;obtain⟨A,c,g0,g1,g2,g3,g4⟩:=hc j hj;exact⟨A,c,(u.cell hb).trans g0,g1.ai u,g2,g3,g4⟩
theorem j6(n:Nat)(at':Int)(rs:List (Int × Int))(k:Nat)(h:k<rs.length):St.bV n at' (rs.drop k)=if rs[k].1<at'\/rs[k].2<rs[k].1\/(n:Int)<rs[k].2 then false else St.bV n rs[k].2 (rs.drop (k+1)):=by
 rw[List.drop_eq_getElem_cons h,St.bV]
def Sx(w:YA)(rs:List (Int × Int))(n:Nat)(s5 dy:Value)(wr:YA):Prop:=
 ∃(k:Nat) (a:Int),k<=rs.length/\dy=Yp Yv k/\s5=Yp Yv a/\St.bV n 0 rs=St.bV n a (rs.drop k)/\ac w wr
theorem C6(A:Option Addr)(n c L:Nat)(rs:List (Int × Int))(w:YA)(hn:rs.length=n)(h:eC w A rs)(hl:n<=1000000000) :
  Calls Tryz.prog 47 #[Yr A n c,Yp Yv (L:Int)] w λe w'=>e=Yx (Ys (St.bV L 0 rs))/\ac w w':=by
 have H:=aa h;have HN:=aa hn;clear h hn;go_enter Tryz.func47,Tryz.ntmps47;go_wp2;go_loopw [5,10] (λs5 dy wr=>Sx w rs L s5 dy wr) (λ_ dy _=>n+1-(intOf dy).toNat)
 case atStart=>exact⟨0,0,by omega,rfl,rfl,by simp,ac.refl _⟩
 case round=>
  obtain⟨k,a,hk,rfl,rfl,has,hu⟩:=hrel;have HU:=aa hu;have HAS:=aa has;have hN:=HN.out;clear hu has
  by_cases hlt:k<n
  ·have aO:k<rs.length:=by omega
   obtain⟨b,off,rfl,hb,hc⟩:=(H.out.ai HU.out) (by omega);obtain⟨c0,c1⟩:=hc k aO;have hd:=j6 L a rs k aO;generalize rs[k]=r at c0 c1 hd;obtain⟨p,q⟩:=r;simp only at c0 c1 hd;haveI:af b wr:=af.of hb;have HD:=aa hd;clear hc aO hd
   by_cases h1:p<a
   ·have hf:=aa (show St.bV L 0 rs=false by rw[HAS.out,HD.out,if_pos (.inl h1)]);go_wp2;go_ret;exact⟨az hf.out.symm,HU.out.trans uZ⟩
   by_cases h2:q<p
   ·have hf:=aa (show St.bV L 0 rs=false by rw[HAS.out,HD.out,if_pos (.inr (.inl h2))]);go_wp2;go_ret;exact⟨az hf.out.symm,HU.out.trans uZ⟩
   by_cases h3:(L:Int)<q
   ·have hf:=aa (show St.bV L 0 rs=false by rw[HAS.out,HD.out,if_pos (.inr (.inr h3))]);go_wp2;go_ret;exact⟨az hf.out.symm,HU.out.trans uZ⟩
   have hf:=aa (show St.bV L 0 rs=St.bV L q (rs.drop (k+1))by rw[HAS.out,HD.out,if_neg (by rintro (e|e|e);exact h1 e;exact h2 e;exact h3 e)]);go_wp2;exact⟨⟨k+1,q,by omega,congrArg (Yp Yv) (by omega),rfl,hf.out,HU.out.trans uZ⟩,by simp[intOf];omega⟩
  have hkn:k=n:=by omega
  subst hkn;have hf:=aa (show St.bV L 0 rs=true by rw[HAS.out,List.drop_of_length_le (by omega)];rfl);clear hlt;go_wp2;go_ret;exact⟨az hf.out.symm,HU.out⟩
end
section
theorem eR{P:Program}{ops:Array Oper}{o:Oper}{a:Act}{w:YA}{K:Act->YA->Prop}{Q:Exit->Act->YA->Prop}{E:Prop}
  (hg:o.guard=Yy) (f:FuncId) (args:Array Value) (Post:Ending->YA->Prop) (hc:Calls P f args w Post)
  (hrun:(execOp a.eval o).run P w=.ok (.enter f args) w) (hK:∀e w',Post e w'->∃v,e=Yx v/\K (a.put o.dst v) w') :
  if Region.wanted o (yielded ops a.tmps)=true then Oper.wp P o a w K Q else E:=by
 have hw:Region.wanted o (yielded ops a.tmps)=true:=by simp[Region.wanted,hg]
 rw[if_pos hw];unfold Oper.wp;rw[hrun];refine hc.mono ?_;intro e w' h;obtain⟨v,rfl,hk⟩:=hK e w' h;exact hk
theorem pI(a b:List St.It):aY (a++b)=aY a+aY b:=by unfold aY;rw[List.map_append,List.sum_append]
theorem E4(f:List St.It):aY (St.bI f)<=aY f:=by
 have key:∀(n:Nat) (f:List St.It),f.length=n->aY (St.bI f)<=aY f:=by
  intro n
  induction n with
  | zero=>intro f h;rw[List.eq_nil_of_length_eq_zero h];simp[St.bI]
  | succ n ih=>
   intro f h;rcases St.cL f with rfl|⟨a,b,rfl⟩
   ·simp at h
   rw[St.ek,cA];have h1:=ik (St.bI a) b;have h2:=ih a (by simpa using h);omega
 exact key _ f rfl
theorem uR(a b:Nat):∀(f:List St.It) (m:Nat),aY (St.aR a b m f)<=aY f
 | [],m=>by simp[St.aR]
 | x :: f,m=>by
  rw[St.aR,pI];have h:=uR a b f (m+St.aV x);have e:aY (x :: f)=x.2.1.length+aY f:=by simp[aY]
  have h1:aY (if x.1=1 then(if max a m-m<min b (m+x.2.1.length)-m then[((1:Int),(x.2.1.take (min b (m+x.2.1.length)-m)).drop (max a m-m),x.2.2)]else[])else(if a<=m/\m<b then[x]else[]))<=x.2.1.length:=by
   repeat' split
   all_goals simp[aY]
   all_goals omega
  omega
theorem Nt(f:List St.It)(a:Nat)(O:List St.It)(rs:List (Int × Int))(ts:List (List St.It))(k:Nat)(h:k<rs.length)(h':k<ts.length) :
  St.kO f a O (rs.drop k) (ts.drop k)=St.kO f rs[k].2.toNat (St.bI (St.bI (O++St.aR a rs[k].1.toNat 0 f)++ts[k])) (rs.drop (k+1)) (ts.drop (k+1)):=by
 rw[List.drop_eq_getElem_cons h,List.drop_eq_getElem_cons h',St.kO]
def NW(w:YA)(f:List St.It)(rs:List (Int × Int))(ts:List (List St.It))(s7 s8 rI:Value)(wr:YA):Prop:=
 ∃(k a:Nat) (O:List St.It) (A c:_),k<=rs.length/\rI=Yp Yv k/\s8=Yp Yv a/\s7=Yr A O.length c/\aJ wr A O/\(A=Yy->O.length=0/\c=0)/\a<=St.aA f/\O.length<=1700*k/\aY O<=200000000*k /\
  St.bV (St.aA f) a (rs.drop k)=true/\St.kO f 0 [] rs ts=St.kO f a O (rs.drop k) (ts.drop k)/\ac w wr
theorem JZ(A B C:Option Addr)(n c m d e0:Nat)(f:List St.It)(rs:List (Int × Int))(ts:List (List St.It))(w:YA)(hn:f.length=n)(hm:rs.length=m)(hm':ts.length=m)(h:aJ w A f)(hB:eC w B rs)(hC:gk w C ts)
  (hl:n<=512) (ht:aY f<=100000000) (fC:m<=20) (hts:∀t∈ts,t.length<=1100/\aY t<=100000000) (ig:St.bV (St.aA f) 0 rs=true) :
  Calls Tryz.prog 54 #[Yr A n c,Yr B m d,Yr C m e0] w λe w'=>∃v,e=Yx v/\w'.ownsRow w.1.size 36 3 v (St.cK f rs ts).length (ak (St.cK f rs ts))/\(St.cK f rs ts).length<=60000/\aY (St.cK f rs ts)<=100000000000/\ac w w':=by
 have H:=aa h;have HN:=aa hn;have HM:=aa hm;have VP:=aa hm';have HB:=aa hB;have HC:=aa hC;have sW:=aa hts;have HT:=aa ht;have XI:=gv f;have hle:=aa (λ(W:YA) (hW:ac w W)=>li A n c f W hn (h.ai hW) (by omega) (by omega));have hsl:=aa (λ(W:YA) (hW:ac w W) (a b:Nat) (hab:a<=b) (hbl:b<=St.aA f)=>IE A n c f a b W hn (h.ai hW) (by omega) (by omega) hab hbl);have Cw:=aa ig;clear h hn hm hm' hB hC hts ht ig;obtain⟨L,hL⟩:∃L,L=St.aA f:=⟨_,rfl⟩;go_enter Tryz.func54,Tryz.ntmps54;go_wp2_with fail;go_loopw [7,8,17] (λs7 s8 rI wr=>NW w f rs ts s7 s8 rI wr) (λ_ _ rI _=>m+1-(intOf rI).toNat)
 case atStart=>exact⟨0,0,[],Yy,0,by omega,rfl,rfl,rfl,λh=>absurd h (by simp),λ_=>⟨rfl,rfl⟩,by omega,by simp,by simp[aY],by simpa using Cw.out,by simp,ac.refl _⟩
 case round=>
  obtain⟨k,a,O,A7,c7,hk,rfl,rfl,rfl,hI,hA7,hal,Rd,hOt,has,jE,hu⟩:=hrel;have HU:=aa hu;have HI:=aa hI;have Tr:=aa hA7;have pS:=aa jE;have hN:=HN.out;have hM:=HM.out;have XJ:=VP.out;have hT:=HT.out;clear hu hI hA7 jE
  by_cases hlt:k<m
  ·have aO:k<rs.length:=by omega
   have gf:k<ts.length:=by omega
   obtain⟨b,off,rfl,hb,hc⟩:=(HB.out.ai HU.out) (by omega);obtain⟨c0,c1⟩:=hc k aO;obtain⟨b2,off2,rfl,hb2,hc2⟩:=(HC.out.ai HU.out) (by omega);obtain⟨At,ct,g0,gI,gn,gc,gA⟩:=hc2 k gf;rw[j6 _ _ rs k aO]at has;have gP:=Nt f a O rs ts k aO gf;have fT:=sW.out ts[k] (List.getElem_mem gf);generalize rs[k]=r at c0 c1 has gP;generalize ts[k]=t at g0 gI gn gP fT;obtain⟨p,q⟩:=r;simp only at c0 c1 has gP
   split at has
   ·cases has
   rename_i hcond
   obtain⟨p',rfl⟩:∃p':Nat,p=p':=⟨p.toNat,by omega⟩;obtain⟨q',rfl⟩:∃q':Nat,q=q':=⟨q.toNat,by omega⟩;have hap:a<=p':=by omega
   have pk:p'<=q':=by omega
   have RN:q'<=St.aA f:=by omega
   have Wy:p'<=St.aA f:=by omega
   simp only[Int.toNat_natCast]at gP;have Oy:=yG a p' f 0;have Oz:=uR a p' f 0;have bB:=aa (λW hW=>hsl.out W hW a p' hap Wy);generalize St.aR a p' 0 f=P at gP Oy Oz bB;have jk:=St.nR (O++P);have ht1:=E4 (O++P);rw[pI]at ht1;have r8:=λ(AP:Option Addr) (cP:Nat) (W:YA) (hW:ac wr W) (xS:AP=Yy->P.length=0/\cP=0) (hP:aJ W AP P)=>wl A7 AP O.length c7 P.length cP O P W rfl rfl Tr.out xS (HI.out.ai hW) hP (by omega) (by rw[pI];omega)
   obtain⟨Q1,hQ1⟩:∃Q1,Q1=St.bI (O++P):=⟨_,rfl⟩;rw[<-hQ1]at gP jk ht1 r8;rw[List.length_append]at jk;have fD:=St.nR (Q1++t);have ht2:=E4 (Q1++t);rw[pI]at ht2;rw[List.length_append]at fD;have OD:=λ(AQ:Option Addr) (cQ:Nat) (W:YA) (hW:ac wr W) (Wi:AQ=Yy->Q1.length=0/\cQ=0) (hQ:aJ W AQ Q1)=>wl AQ At Q1.length cQ t.length ct Q1 t W rfl rfl Wi (λe=>by have:=gA e;omega) hQ (gI.ai hW) (by omega) (by rw[pI];omega)
   have hfin:∀(A8:Option Addr) (c8:Nat) (W:YA),aJ W A8 (St.bI (Q1++t))->(A8=Yy->(St.bI (Q1++t)).length=0/\c8=0)->ac w W->NW w f rs ts (Yr A8 (St.bI (Q1++t)).length c8) (Yp Yv (q':Int)) (Yp Yv ((k:Int)+1)) W:=λA8 c8 W h1 h2 h3=>
    ⟨k+1,q',_,A8,c8,by omega,congrArg (Yp Yv) (by omega),rfl,rfl,h1,h2,RN,by omega,by omega,has,by rw[pS.out,gP],h3⟩
   have dA:=aa hfin;have Qi:=aa r8;have xa:=aa OD;haveI:af b wr:=af.of hb;haveI:af b2 wr:=af.of hb2;have z1:(k:Int)<(m:Int):=by omega
   clear hc hc2 hcond gP r8 OD hfin has gI jk ht1 fD ht2 Oy Oz fT aO gf;generalize St.bI (Q1++t)=Q2 at *;go_wp2_with fail;refine(bB.out _ (HU.out.trans uZ)).mono ?_;rintro e w3 ⟨vP,rfl,x7,hu3⟩;have cI:ac wr w3:=ac.trans (uZ) hu3;have d0:w3.cell? ⟨wr.1.size,0,Yy⟩=Yz (Yp Yv (p':Int)):=(hu3.cell (p:=⟨wr.1.size,0,Yy⟩) (by simp)).trans (by simp);have d1:w3.cell? ⟨wr.1.size,1,Yy⟩=Yz (Yp Yv (q':Int)):=(hu3.cell (p:=⟨wr.1.size,1,Yy⟩) (by simp)).trans (by simp);have g3:=(cI.cell (p:=⟨b2,off2+k,Yy⟩) hb2).trans g0;obtain⟨AP,cP,rfl,_,_,xS⟩:=aW x7;have Ua:=a7 x7 rfl;haveI:af wr.1.size w3:=af.of (cS _ _ d0);haveI:af b2 w3:=af.of (cS _ _ g3);have bm:=aa cI;have HP:=aa Ua
   have MH:AP=Yy->P.length=0/\cP=0:=λe=>by
    have:=xS e
    refine⟨?_,this⟩;subst e;rcases x7.2 with⟨e1,e2⟩|⟨g,cap,cur,e1,_⟩
    ·simpa using e2
    cases e1
   generalize wr.1.size=bx at *;clear hu3 cI x7 Ua c0 c1 g0 xS;go_wp2_with fail
   go_region_law (first
    | (refine eR rfl 98 #[Yr A7 O.length c7,Yr AP P.length cP] _ (Qi.out AP cP _ (bm.out.trans uZ) MH (HP.out.ai uZ)) ?_ ?_;(· go_simp;done);rintro e w5 ⟨v5,rfl,fh,bt⟩;obtain⟨A5,c5,rfl,_,_,hA5⟩:=aW fh;refine⟨_,rfl,?_⟩;have g5:=(bt.cell (p:=⟨b2,off2+k,Yy⟩) (af.lt inferInstance)).trans g3;have d5:=(bt.cell (p:=⟨bx,1,Yy⟩) (af.lt inferInstance)).trans d1;haveI:af b2 w5:=af.of (cS _ _ g5);haveI:af bx w5:=af.of (cS _ _ d5))
    | (refine eR rfl 98 #[Yr A5 Q1.length c5,Yr At t.length ct] _ (xa.out A5 c5 _ (bm.out.trans (ac.trans (ac.trans uZ bt) uZ)) (λe=>⟨by subst e;rcases fh.2 with⟨e1,e2⟩|⟨g,cap,cur,e1,_⟩<;>simp_all,hA5 e⟩) ((a7 fh rfl).ai uZ)) ?_ ?_;(· go_simp;done);rintro e w6 ⟨v6,rfl,qd,dQ⟩;obtain⟨A6,c6,rfl,_,_,hA6⟩:=aW qd;refine⟨_,rfl,?_⟩;have d6:=(dQ.cell (p:=⟨bx,1,Yy⟩) (af.lt inferInstance)).trans d5;haveI:af bx w6:=af.of (cS _ _ d6)))
   all_goals
    have U5:A6=Yy->Q2.length=0/\c6=0:=λe=>⟨by subst e;rcases qd.2 with⟨e1,e2⟩|⟨g,cap,cur,e1,_⟩<;>simp_all,hA6 e⟩
    have HE:=aa (dA.out A6 c6 w6 (a7 qd rfl) U5 (HU.out.trans (bm.out.trans (ac.trans (ac.trans uZ bt) (ac.trans uZ dQ)))));clear fh qd bt dQ;go_wp2;exact⟨HE.out,by simp[intOf];omega⟩
  have hkn:k=m:=by omega
  subst hkn
  have hrl:St.cK f rs ts=St.bI (O++St.aR a (St.aA f) 0 f):=by
   unfold St.cK;rw[pS.out,List.drop_of_length_le (by omega),List.drop_of_length_le (by omega)];rfl
  have Oy:=yG a (St.aA f) f 0;have Oz:=uR a (St.aA f) f 0;have bB:=aa (λW hW=>hsl.out W hW a (St.aA f) hal (Nat.le_refl _));generalize St.aR a (St.aA f) 0 f=P at hrl Oy Oz bB;have jk:=St.nR (O++P);have ht1:=E4 (O++P);rw[pI]at ht1;rw[List.length_append]at jk;have r8:=λ(AP:Option Addr) (cP:Nat) (W:YA) (hW:ac wr W) (xS:AP=Yy->P.length=0/\cP=0) (hP:aJ W AP P)=>wl A7 AP O.length c7 P.length cP O P W rfl rfl Tr.out xS (HI.out.ai hW) hP (by omega) (by rw[pI];omega)
  rw[<-hrl]at jk ht1 r8;have Qi:=aa r8;have HL:=aa (hle.out _ HU.out);clear hlt r8 hrl has;go_wp2_with fail;refine HL.out.mono ?_;rintro e w2 ⟨rfl,hu2⟩;have aX:=aa hu2;clear hu2;go_wp2_with fail;refine(bB.out _ (HU.out.trans aX.out)).mono ?_;rintro e w3 ⟨vP,rfl,x7,hu3⟩;obtain⟨AP,cP,rfl,_,_,xS⟩:=aW x7;have HP:=aa (a7 x7 rfl);have bm:=aa (aX.out.trans hu3);have MH:AP=Yy->P.length=0/\cP=0:=λe=>⟨by subst e;rcases x7.2 with⟨e1,e2⟩|⟨g,cap,cur,e1,_⟩<;>simp_all,xS e⟩
  clear hu3 x7 xS;go_wp2_with fail;refine(Qi.out AP cP _ bm.out MH HP.out).mono ?_;rintro e w4 ⟨v4,rfl,kW,bj⟩;have HE:=aa (And.intro (cT kW (by have:=(HU.out.trans bm.out).size;omega)) (HU.out.trans (bm.out.trans bj)));clear kW bj;go_wp2;go_ret;exact⟨_,rfl,HE.out.1,by omega,by omega,HE.out.2⟩
end
section
def qD(b:Nat)(w:YA):Prop:=∃p,(p=Yt Yy\/p=Yt (Yz ⟨b,0,Yy⟩))/\w.1[b]?=Yz (Yw #[p,Yr Yy 0 0] 92 (0,0))
theorem qD.ai{b:Nat}{a c:YA}(h:qD b a)(u:ac a c):qD b c:=by
 obtain⟨p,h1,h2⟩:=h;exact⟨p,h1,(u.below.block b (ae h2)).trans h2⟩
theorem qD.sb{B b:Nat}{w:YA}(h:qD b w)(hB:B<=b):SB B b [] w:=by
 obtain⟨p,h1,h2⟩:=h;rcases h1 with rfl|rfl
 ·exact .inl ⟨hB,_,h2,World.ownsRow_nil _ _ _ _,by simp[Value.ownBlock]⟩
 exact .inr ⟨hB,_,h2,World.ownsRow_nil _ _ _ _,by simp[Value.ownBlock]⟩
theorem B7(B b:Nat)(w:YA)(h:qD b w)(hB:B<=b) :
  Calls Tryz.prog 99 #[Yt (Yz ⟨b,0,Yy⟩)] w λe w'=>e=Yx (Yu #[])/\w'.1[b]?=Yz (Yw #[Yt (Yz ⟨b,0,Yy⟩),Yr Yy 0 0] 92 (0,0))/\Below B w w':=by
 obtain⟨p,h1,h2⟩:=h;rcases h1 with rfl|rfl
 ·refine(pY b w (aj h2 0) (by simp[World.shape?,h2]) (bu h2 0)).mono ?_;rintro e w' ⟨rfl,rfl⟩;exact⟨rfl,heap_setCell_same w b 0 _ _ _ h2,(Below.refl B w).setCell (p:=⟨b,0,Yy⟩) hB _⟩
 refine(rh b w (aj h2 0)).mono ?_;rintro e w' ⟨rfl,rfl⟩;exact⟨rfl,h2,Below.refl B _⟩
theorem wX(B b:Nat)(s:ByteArray)(w:YA)(h:qD b w)(hs:s.size=0)(hB:B<=b)(hBw:B<=w.1.size) :
  Calls Tryz.prog 56 #[Yt (Yz ⟨b,0,Yy⟩),Yq s] w λe w'=>e=Yx (Yu #[Yp Yv s.size,.nilIface])/\qD b w'/\Below B w w':=by
 obtain⟨i0,hi,hz0,hz1,hz2⟩:=info_parts GM;go_enter Tryz.func56,Tryz.ntmps56;go_wp2_with (go_at_call 99;refine(B7 B b _ h hB).mono ?_);rintro e w1 ⟨rfl,hbk,hb1⟩;have c0:w1.cell? ⟨b,0,Yy⟩=Yz (Yt (Yz ⟨b,0,Yy⟩)):=by rw[aj hbk];rfl
 have c1:w1.cell? ⟨b,1,Yy⟩=Yz (Yr Yy 0 0):=by rw[aj hbk];rfl
 go_wp2_with (at_builtin;refine Lib.wpList_append_own_string _ rfl _ _ 22 9 rfl B 5 i0 Tryz.underlying22 Tryz.underlying9 hi hz0 hz1 hz2 _ _ _ rfl (World.ownsRow_nil _ _ _ _) s rfl ?c3 ?c4 ?c5 ?_)
 case c3=>unfold maxLen;omega
 case c4=>omega
 case c5=>have:=hb1.size;omega
 intro v' w2 hown' hgrow hnil;obtain rfl:v'=Yr Yy 0 0:=by first|exact hnil|exact hnil.2 ⟨rfl,hs⟩
 have hb2:w2.1[b]?=Yz (Yw #[Yt (Yz ⟨b,0,Yy⟩),Yr Yy 0 0] 92 (0,0)):=by
  rw[hgrow.block b (ae hbk) (λe=>by simp[Value.ownBlock]at e)];exact hbk
 have d0:w2.cell? ⟨b,0,Yy⟩=Yz (Yt (Yz ⟨b,0,Yy⟩)):=by rw[aj hb2];rfl
 have d1:w2.cell? ⟨b,1,Yy⟩=Yz (Yr Yy 0 0):=by rw[aj hb2];rfl
 have f1:w2.frozen? ⟨b,1,Yy⟩=false:=bu hb2 1
 have hfin:=aa (show qD b (w2.setCell ⟨b,1,Yy⟩ (Yr Yy 0 0))/\Below B w (w2.setCell ⟨b,1,Yy⟩ (Yr Yy 0 0))from
  ⟨⟨_,.inr rfl,heap_setCell_same w2 b 1 _ _ _ hb2⟩,(hb1.grown hgrow (by have:=hb1.size;omega) (λk hk=>by simp[Value.ownBlock]at hk)).setCell (p:=⟨b,1,Yy⟩) hB _⟩)
 clear hown' hgrow hnil;go_wp2;go_ret2;exact⟨by first|rfl|(rw[hs];rfl),hfin.out.1,hfin.out.2⟩
def tK(B b:Nat)(l:List UInt8)(w:YA):Prop:=(l=[]/\qD b w/\B<=b)\/(l≠[]/\SB B b l w)
theorem tK.ai{B b:Nat}{l:List UInt8}{a c:YA}(h:tK B b l a)(u:ac a c):tK B b l c:=by
 rcases h with⟨h1,h2,h3⟩|⟨h1,h2⟩
 ·exact .inl ⟨h1,h2.ai u,h3⟩
 exact .inr ⟨h1,h2.ai u⟩
theorem Fx(B b:Nat)(l t:List UInt8)(w:YA)(h:tK B b l w)(hlen:l.length+t.length<=140737488355328)(hBw:B<=w.1.size) :
  Calls Tryz.prog 56 #[Yt (Yz ⟨b,0,Yy⟩),Yq ⟨t.toArray⟩] w λe w'=>e=Yx (Yu #[Yp Yv (t.length:Int),.nilIface])/\tK B b (l++t) w'/\Below B w w':=by
 have hz:(⟨t.toArray⟩:ByteArray).size=t.length:=by show t.toArray.size=_;simp
 have key:SB B b l w->l++t≠[]->Calls Tryz.prog 56 #[Yt (Yz ⟨b,0,Yy⟩),Yq ⟨t.toArray⟩] w λe w'=>e=Yx (Yu #[Yp Yv (t.length:Int),.nilIface])/\tK B b (l++t) w'/\Below B w w':=λh1 h2=>by
  refine(yO B b l ⟨t.toArray⟩ w h1 (by rw[hz];exact hlen) hBw).mono ?_;rintro e w' ⟨rfl,h3,h4,_⟩;exact⟨by rw[hz],.inr ⟨h2,by simpa using h3⟩,h4⟩
 rcases h with⟨rfl,h2,h3⟩|⟨h1,h2⟩
 ·by_cases ht:t=[]
  ·subst ht;refine(wX B b ⟨#[]⟩ w h2 rfl h3 hBw).mono ?_;rintro e w' ⟨rfl,h4,h5⟩;exact⟨rfl,.inl ⟨rfl,h4,h3⟩,h5⟩
  exact key (h2.sb h3) (by simpa using ht)
 exact key h2 (by simp[h1])
theorem I7(B b:Nat)(l:List UInt8)(w:YA)(h:tK B b l w) :
  Calls Tryz.prog 57 #[Yt (Yz ⟨b,0,Yy⟩)] w λe w'=>e=Yx (Yq ⟨l.toArray⟩)/\Below B w w':=by
 rcases h with⟨rfl,⟨p,_,h2⟩,_⟩|⟨h1,h2⟩
 ·exact EN B b p w h2
 exact EM B b l w h2 h1
def NV(w:YA)(b:Nat)(ps:List St.Pt)(n:Nat)(s9:Value)(wr:YA):Prop:=
 ∃k:Nat,k<=n/\s9=Yp Yv k/\tK w.1.size b (St.b8 (ps.take k)) wr/\ac w wr
theorem Ex(ps:List St.Pt)(k:Nat)(h:k<ps.length):St.b8 (ps.take (k+1))=St.b8 (ps.take k)++ps[k].2.2:=by
 unfold St.b8;rw[List.take_add_one,List.getElem?_eq_getElem h,List.flatMap_append];simp
theorem vE(ps:List St.Pt)(k:Nat):(St.b8 (ps.take k)).length<=(St.b8 ps).length:=by
 have e:St.b8 ps=St.b8 (ps.take k)++St.b8 (ps.drop k):=by
  conv=>lhs;rw[<-List.take_append_drop k ps]
  unfold St.b8;rw[List.flatMap_append]
 rw[e,List.length_append];omega
theorem rV(fmt:Int)(A:Option Addr)(n c:Nat)(ps:List St.Pt)(w:YA)(hn:ps.length=n)(h:a8 w A ps)(hl:n<=9223372036854775807)(hr:(St.b8 ps).length<=1000000000) :
  Calls Tryz.prog 17 #[.agg #[Yp Yv fmt,Yr A n c]] w λe w'=>e=Yx (Yq ⟨(St.b8 ps).toArray⟩)/\ac w w':=by
 have H:=aa h;have HN:=aa hn;have HR:=aa hr;clear h hn hr;go_enter Tryz.func17,Tryz.ntmps17;go_wp2_with fail;go_loopw [9] (λs9 wr=>NV w (w.1.size+1) ps n s9 wr) (λs9 _=>n+1-(intOf s9).toNat)
 case atStart=>
  refine⟨0,by omega,rfl,.inl ⟨rfl,⟨Yt Yy,.inl rfl,?_⟩,by omega⟩,uZ⟩;have:=heap_alloc_new (w.alloc (Yw #[Yp Yv fmt,Yr A n c] 25)) (Yw #[Yt Yy,Yr Yy 0 0] 92)
  simpa using this
 case round=>
  obtain⟨k,hk,rfl,oa,hu⟩:=hrel;have HU:=aa hu;have Aw:=aa oa;have hN:=HN.out;have hR:=HR.out;have hsz:=hu.size;clear hu oa
  by_cases hlt:k<n
  ·have aO:k<ps.length:=by omega
   obtain⟨b,off,rfl,hb,hc⟩:=(H.out.ai HU.out) (by omega);obtain⟨c0,c1,c2⟩:=hc k aO;have hrt:=Ex ps k aO;have h1:=vE ps (k+1);generalize ps[k]=x at c0 c1 c2 hrt;obtain⟨xu,xk,xr⟩:=x;simp only at c0 c1 c2 hrt;rw[hrt,List.length_append]at h1;have hwr:=aa (λ(W:YA) (hW:ac wr W)=>Fx w.1.size (w.1.size+1) (St.b8 (ps.take k)) xr W (Aw.out.ai hW) (by omega) (by have:=hW.size;omega));rw[<-hrt]at hwr;haveI:af b wr:=af.of hb;clear hc aO hrt;go_wp2_with fail;refine(hwr.out _ uZ).mono ?_;rintro e w3 ⟨rfl,h3,h4⟩;have HE:=aa (show NV w (w.1.size+1) ps n (Yp Yv ((k:Int)+1)) w3 from⟨k+1,by omega,congrArg (Yp Yv) (by omega),h3,ac.mk (((HU.out.trans uZ).below).trans h4)⟩);clear h3 h4;go_wp2;exact⟨HE.out,by simp[intOf];omega⟩
  have hkn:k=n:=by omega
  subst hkn;have hft:ps.take k=ps:=List.take_of_length_le (by omega);rw[hft]at Aw;have hst:=aa (I7 w.1.size (w.1.size+1) (St.b8 ps) wr Aw.out);clear hlt hft;go_wp2_with fail;refine hst.out.mono ?_;rintro e w3 ⟨rfl,h4⟩;have HE:=aa (ac.mk (HU.out.below.trans h4));clear h4;go_wp2;go_ret;exact⟨rfl,HE.out⟩
end
section
structure tL (w0:YA) (fmt:Int) (S:List UInt8->List St.Pt × Nat × Int):Prop where
 kn:fmt=1\/fmt=2\/fmt=3
 uN:∀(d:ByteArray) (w:YA),ac w0 w->d.size<=1000000000->Calls Tryz.prog 46 #[Yp Yv fmt,Yq d] w λe w'=>∃A c,e=Yx (Yu #[Yr A (S d.1.1).1.length c,Yp Yv ((S d.1.1).2.1:Int),Yp Yv (S d.1.1).2.2])/\a8 w' A (S d.1.1).1/\(S d.1.1).1.length<=c/\c<=9223372036854775807/\ac w w'
theorem tL.ai{a c:YA}{fmt:Int}{S:List UInt8->List St.Pt × Nat × Int}(h:tL a fmt S)(u:ac a c):tL c fmt S:=⟨h.kn,λd w hw=>h.uN d w (u.trans hw)⟩
structure mP (w0:YA) (fmt:Int) (D:List UInt8->St.gy) (S:List UInt8->List St.Pt × Nat × Int):Prop where
 kn:fmt=1\/fmt=2\/fmt=3
 uN:∀(d:ByteArray) (w:YA),ac w0 w->d.size<=1000000000->Calls Tryz.prog 46 #[Yp Yv fmt,Yq d] w λe w'=>∃A c,e=Yx (Yu #[Yr A (S d.1.1).1.length c,Yp Yv ((S d.1.1).2.1:Int),Yp Yv (S d.1.1).2.2])/\a8 w' A (S d.1.1).1/\(S d.1.1).1.length<=c/\c<=9223372036854775807/\ac w w'
 dec:∀(d:ByteArray) (w:YA),ac w0 w->d.size<=1000000000->Calls Tryz.prog 51 #[Yp Yv fmt,Yq d] w λe w'=>∃A c,e=Yx (Yu #[Yr A (D d.1.1).1.length c,Yp Yv (D d.1.1).2.2.2])/\aJ w' A (D d.1.1).1/\(D d.1.1).1.length<=c/\c<=9223372036854775807/\ac w w'
 cut:∀(d:ByteArray) (w:YA),ac w0 w->d.size<=1000000000->Calls Tryz.prog 49 #[Yp Yv fmt,Yq d] w λe w'=>∃A c,e=Yx (Yu #[Yr A (D d.1.1).2.1.length c,Yp Yv (D d.1.1).2.2.2])/\iP w' A (D d.1.1).2.1/\(D d.1.1).2.1.length<=c/\c<=9223372036854775807/\ac w w'
 enc:∀(A:Option Addr) (n c:Nat) (f:List St.It) (w:YA),ac w0 w->f.length=n->n<=c->c<=9223372036854775807->aJ w A f->n<=1000000000->aY f<=1000000000000->Calls Tryz.prog 50 #[Yp Yv fmt,Yr A n c] w λe w'=>e=Yx (Yu #[Yq ⟨(St.bn fmt f).1.toArray⟩,Yp Yv (St.bn fmt f).2])/\ac w w'
 ok:∀d,(D d).2.2.2=0->St.wY d.length (D d)
theorem mP.sp{a:YA}{fmt:Int}{D:List UInt8->St.gy}{S:List UInt8->List St.Pt × Nat × Int}(h:mP a fmt D S):tL a fmt S:=⟨h.kn,h.uN⟩
theorem mP.ai{a c:YA}{fmt:Int}{D:List UInt8->St.gy}{S:List UInt8->List St.Pt × Nat × Int}(h:mP a fmt D S)(u:ac a c):mP c fmt D S:=
 ⟨h.kn,λd w hw=>h.uN d w (u.trans hw),λd w hw=>h.dec d w (u.trans hw),λd w hw=>h.cut d w (u.trans hw),λA n c f w hw=>h.enc A n c f w (u.trans hw),h.ok⟩
theorem fG{W:YA}{A:Option Addr}{ps:List St.Pt}{g:Nat}{i:Int}{a:Option Addr}{n c:Nat}(h:a8 W A ps)(hg:W.1[g]?=Yz (Yw #[Yp Yv i,Yr a n c] 25 (0,0)))(u v:Value) :
  a8 ((W.setCell ⟨g,0,Yy⟩ u).setCell ⟨g,1,Yy⟩ v) A ps:=by
 intro h0;obtain⟨b,off,rfl,hb,hc⟩:=h h0
 have hne:b≠g:=by
  intro e;subst e;have h1:=(hc 0 h0).1;rw[aj hg]at h1
  match hm:off+0*3,h1 with
  | 0,h1=>simp at h1
  | 1,h1=>simp at h1
  | k+2,h1=>simp at h1
 have hbl:∀off',((W.setCell ⟨g,0,Yy⟩ u).setCell ⟨g,1,Yy⟩ v).cell? ⟨b,off',Yy⟩=W.cell? ⟨b,off',Yy⟩:=λoff'=>
  World.cell?_of_block (a:=⟨b,off',Yy⟩) ((Below.heap_setCell _ ⟨g,1,Yy⟩ v b hne).trans (Below.heap_setCell W ⟨g,0,Yy⟩ u b hne))
 refine⟨b,off,rfl,by simpa using hb,λj hj=>?_⟩;rw[hbl,hbl,hbl];exact hc j hj
section
variable {fmt:Int} {D:List UInt8->St.gy} {S:List UInt8->List St.Pt × Nat × Int}
def vQ(fmt:Int)(R:List St.Pt × Nat × Int)(w:YA)(e:Ending)(w':YA):Prop:=
 ac w w'/\((R.2.2=0/\∃A c,e=Yx (Yu #[.agg #[Yp Yv fmt,Yr A R.1.length c],Yp Yv 0,Yp Yv 0])/\a8 w' A R.1/\R.1.length<=c/\c<=9223372036854775807)\/
  (R.2.2≠0/\e=Yx (Yu #[.agg #[Yp Yv 0,Yr Yy 0 0],Yp Yv (R.2.1:Int),Yp Yv R.2.2])))
theorem AN(d:ByteArray)(w:YA)(hF:tL w fmt S)(hd:d.size<=1000000000):Calls Tryz.prog 14 #[Yp Yv fmt,Yq d] w (vQ fmt (S d.1.1) w):=by
 have HK:=aa (λW=>rX fmt W hF.kn);have HS:=aa (λW (hW:ac w W)=>hF.uN d W hW hd);generalize S d.1.1=R at HS |-;obtain⟨ps,pl,er⟩:=R;clear hF;go_enter Tryz.func14,Tryz.ntmps14;go_wp2_with fail;refine(HK.out _).mono ?_;rintro e w2 ⟨rfl,rfl⟩;go_wp2_with fail;refine(HS.out _ uZ).mono ?_;rintro e w3 ⟨A,c,rfl,hP,h1,h2,hu⟩;have hu':ac w w3:=ac.trans (uZ) hu;have hb3:=(hu.below.block w.1.size (by simp)).trans (heap_alloc_new w (Yw #[Yp Yv 0,Yr Yy 0 0] 25));have d0:w3.cell? ⟨w.1.size,0,Yy⟩=Yz (Yp Yv 0):=aj hb3 0;have d1:w3.cell? ⟨w.1.size,1,Yy⟩=Yz (Yr Yy 0 0):=aj hb3 1;have f0:w3.frozen? ⟨w.1.size,0,Yy⟩=false:=bu hb3 0;have f1:w3.frozen? ⟨w.1.size,1,Yy⟩=false:=bu hb3 1;haveI:af w.1.size w3:=af.of (ae hb3);have lz:∀u v,ac w ((w3.setCell ⟨w.1.size,0,Yy⟩ u).setCell ⟨w.1.size,1,Yy⟩ v):=λu v=>ac.mk ((hu'.below.setCell (p:=⟨w.1.size,0,Yy⟩) (Nat.le_refl _) u).setCell (p:=⟨w.1.size,1,Yy⟩) (Nat.le_refl _) v)
 have CN:=aa lz;have vq:=aa (λu v=>fG hP hb3 u v);simp only at h1 |-;clear hu hu' hb3 lz hP
 by_cases he:er=0
 ·subst he;go_wp2;refine bodyPost_ret (v:=Yu #[.agg #[Yp Yv fmt,Yr A ps.length c],Yp Yv 0,Yp Yv 0]) ?_ rfl ?_
  ·simp[results,Tryz.results14,go_sem,d0,d1]
  exact⟨CN.out _ _,.inl ⟨rfl,A,c,rfl,vq.out _ _,h1,h2⟩⟩
 have z1:(er==0)=false:=by simpa using he
 have z2:(er != 0)=true:=by simpa using he
 have HE:=aa he;clear he;go_wp2;refine bodyPost_ret (v:=Yu #[.agg #[Yp Yv 0,Yr Yy 0 0],Yp Yv pl,Yp Yv er]) ?_ rfl ?_
 ·simp[results,Tryz.results14,go_sem,d0,d1]
 exact⟨CN.out _ _,.inr ⟨HE.out,rfl⟩⟩
theorem Hv(d:ByteArray)(w:YA)(hF:mP w fmt D S)(hd:d.size<=1000000000):Calls Tryz.prog 14 #[Yp Yv fmt,Yq d] w (vQ fmt (S d.1.1) w):=AN d w hF.sp hd
end
end
section
variable {fmt:Int} {D:List UInt8->St.gy} {S:List UInt8->List St.Pt × Nat × Int}
theorem uB(ps:List St.Pt)(k:Nat)(h:k<ps.length):ps[k].2.2.length<=(St.b8 ps).length:=by
 have h1:=vE ps (k+1);rw[Ex ps k h,List.length_append]at h1;omega
def cY(R:St.gy)(w:YA)(e:Ending)(w':YA):Prop:=
 ∃A c,e=Yx (Yu #[Yr A R.1.length c,Yp Yv R.2.2.2])/\aJ w' A R.1/\R.1.length<=c/\c<=9223372036854775807/\ac w w'
theorem cY.lF{R:St.gy}{w w':YA}(h:R=([],[],0,6))(u:ac w w'):cY R w (Yx (Yu #[Yr Yy 0 0,Yp Yv 6])) w':=by
 subst h;exact⟨Yy,0,rfl,λh=>absurd h (by simp),by simp,by omega,u⟩
theorem pX{ps:List St.Pt}{k:Int}(h:St.gx ps k=(false,[],[])):St.bQ D ps k=([],[],0,6):=by unfold St.bQ;rw[h];rfl
theorem C7(A:Option Addr)(n c:Nat)(ps:List St.Pt)(k:Int)(w:YA)(hk:fmt=1\/fmt=2\/fmt=3)(hD:∀(d:ByteArray) (W:YA),ac w W->d.size<=1000000000->Calls Tryz.prog 51 #[Yp Yv fmt,Yq d] W (cY (D d.1.1) W))(hn:ps.length=n)(h:a8 w A ps)(hl:n<=9223372036854775807)(hr:(St.b8 ps).length<=1000000000) :
  Calls Tryz.prog 26 #[.agg #[Yp Yv fmt,Yr A n c],Yp Yv k] w (cY (St.bQ D ps k) w):=by
 have HK:=aa (λW=>rX fmt W hk);have HD:=aa hD;have H:=aa h;have HN:=aa hn;have HR:=aa hr;clear hk hD h hn hr
 by_cases k0:k<0
 ·have hm:=aa (show St.bQ D ps k=([],[],0,6)from pX (by unfold St.gx;rw[if_neg (by omega)]));go_enter Tryz.func26,Tryz.ntmps26;go_wp2_with fail;refine(HK.out _).mono ?_;rintro e w2 ⟨rfl,rfl⟩;go_wp2;go_ret2;exact cY.lF hm.out uZ
 obtain⟨j,rfl⟩:∃j:Nat,k=j:=⟨k.toNat,by omega⟩
 by_cases kn:j<n
 ·have hj:j<ps.length:=by rw[HN.out];exact kn
  obtain⟨b,off,rfl,hb,hc⟩:=H.out (by omega);obtain⟨c0,c1,c2⟩:=hc j hj;have hpt:St.gx ps (j:Int)=ps[j]:=by unfold St.gx;rw[if_pos (by omega),Int.toNat_natCast,List.getElem?_eq_getElem hj];rfl
  have hrl:=uB ps j hj;have hU:St.bQ D ps (j:Int)=if ps[j].1=true then D ps[j].2.2 else([],[],0,6):=by unfold St.bQ;rw[hpt]
  generalize ps[j]=x at c0 c1 c2 hrl hU;obtain⟨xu,xk,xr⟩:=x;simp only at c0 c1 c2 hrl hU;haveI:af b w:=af.of hb;have hR:=HR.out;have z1:¬(n:Int)<=(j:Int):=by omega
  have z2:(j:Int)<(n:Int):=by omega
  have z3:¬(j:Int)<0:=by omega
  have qS:=aa hU;clear hc hj hpt k0 hU;cases xu
  ·have hm:=aa (show St.bQ D ps (j:Int)=([],[],0,6)by rw[qS.out];rfl);go_enter Tryz.func26,Tryz.ntmps26;go_wp2_with fail;refine(HK.out _).mono ?_;rintro e w2 ⟨rfl,rfl⟩;go_wp2;go_ret2;exact cY.lF hm.out uZ
  have hm:=aa (show St.bQ D ps (j:Int)=D xr by rw[qS.out];rfl);have eI:=aa (λW hW=>HD.out ⟨xr.toArray⟩ W hW (by show xr.toArray.size<=_;simp;omega));go_enter Tryz.func26,Tryz.ntmps26;go_wp2_with fail;refine(HK.out _).mono ?_;rintro e w2 ⟨rfl,rfl⟩;go_wp2_with fail;go_region_law (refine eR rfl 51 #[Yp Yv fmt,Yq ⟨xr.toArray⟩] _ (eI.out _ uZ) ?_ ?_;(· go_simp;done);rintro e w3 ⟨A3,c3,rfl,hI,h1,h2,hu⟩;refine⟨_,rfl,?_⟩)
  all_goals
   have HE:=aa (show cY (D xr) w (Yx (Yu #[Yr A3 (D xr).1.length c3,Yp Yv (D xr).2.2.2])) w3 from⟨A3,c3,rfl,hI,h1,h2,ac.trans (uZ) hu⟩);clear hI h1 h2 hu;go_wp2;go_ret2;rw[hm.out];exact HE.out
 have hm:=aa (show St.bQ D ps (j:Int)=([],[],0,6)from pX (by
  unfold St.gx
  rw[if_pos (by omega),Int.toNat_natCast,List.getElem?_eq_none (by rw[HN.out];omega)];rfl))
 have z1:(n:Int)<=(j:Int):=by omega
 have z3:¬(j:Int)<0:=by omega
 go_enter Tryz.func26,Tryz.ntmps26;go_wp2_with fail;refine(HK.out _).mono ?_;rintro e w2 ⟨rfl,rfl⟩;go_wp2;go_ret2;exact cY.lF hm.out uZ
theorem AK(A:Option Addr)(n c:Nat)(ps:List St.Pt)(k:Int)(w:YA)(hF:mP w fmt D S)(hn:ps.length=n)(h:a8 w A ps)(hl:n<=9223372036854775807)(hr:(St.b8 ps).length<=1000000000) :
  Calls Tryz.prog 26 #[.agg #[Yp Yv fmt,Yr A n c],Yp Yv k] w (cY (St.bQ D ps k) w):=
 C7 A n c ps k w hF.kn (λd W hW hd=>hF.dec d W hW hd) hn h hl hr
end
section
theorem yu{V W:YA}{A:Option Addr}{ps:List St.Pt}{i:Int}{a:Option Addr}{n c:Nat}(h:a8 W A ps)(u':ac (V.alloc (Yw #[Yp Yv i,Yr a n c] 25)) W)(u v:Value) :
  a8 ((W.setCell ⟨V.1.size,0,Yy⟩ u).setCell ⟨V.1.size,1,Yy⟩ v) A ps:=
 fG h ((u'.below.block V.1.size (by simp)).trans (heap_alloc_new V (Yw #[Yp Yv i,Yr a n c] 25))) u v
variable {fmt:Int} {D:List UInt8->St.gy} {S:List UInt8->List St.Pt × Nat × Int}
theorem J0(A:Option Addr)(n c:Nat)(ps:List St.Pt)(w:YA)(hF:tL w fmt S)(hn:ps.length=n)(hnc:n<=c)(dq:c<=9223372036854775807)(h:a8 w A ps)(hl:n<=9223372036854775807)(hr:(St.b8 ps).length<=1000000000) :
  Calls Tryz.prog 23 #[.agg #[Yp Yv fmt,Yr A n c]] w λe w'=>e=Yx (Yp Yv (St.fP S ps))/\ac w w':=by
 have HK:=aa (λW=>rX fmt W hF.kn);have HB:=aa (λW (hW:ac w W)=>rV fmt A n c ps W hn (h.ai hW) hl hr);have HP:=aa (λW (hW:ac w W)=>AN ⟨(St.b8 ps).toArray⟩ W (hF.ai hW) (by show(St.b8 ps).toArray.size<=_;simpa using hr));have H:=aa h;have HN:=aa hn;have hv:St.fP S ps=if(S (St.b8 ps)).2.2=0/\(S (St.b8 ps)).1=ps then 0 else 11:=rfl
 have po:(⟨(St.b8 ps).toArray⟩:ByteArray).1.1=St.b8 ps:=by simp
 rw[po]at HP;generalize(⟨(St.b8 ps).toArray⟩:ByteArray)=iK at HB HP;generalize S (St.b8 ps)=R at hv HP;obtain⟨qs,pl,er⟩:=R;simp only at hv;have HV:=aa hv;clear hF h hn hr hv po
 by_cases he:er=0
 ·subst he;have hpe:Hid (∀(W:YA),ac w W->Calls Tryz.prog 14 #[Yp Yv fmt,Yq iK] W λe w'=>∃A' c',e=Yx (Yu #[.agg #[Yp Yv fmt,Yr A' qs.length c'],Yp Yv 0,Yp Yv 0])/\a8 w' A' qs/\qs.length<=c'/\c'<=9223372036854775807/\ac W w'):=aa λW hW=>(HP.out W hW).mono λe w' ⟨hu,h⟩=>by
   rcases h with⟨_,A',c',h1,h2,h3,h4⟩|⟨h0,_⟩
   ·exact⟨A',c',h1,h2,h3,h4,hu⟩
   exact absurd rfl h0
  clear HP;go_enter Tryz.func23,Tryz.ntmps23;go_wp2_with fail;refine(HK.out _).mono ?_;rintro e w2 ⟨rfl,rfl⟩;go_wp2_with fail
  go_region_law (first
   | (refine eR rfl 17 #[.agg #[Yp Yv fmt,Yr A n c]] _ (HB.out _ uZ) ?_ ?_;(· go_simp;done);rintro e w5 ⟨rfl,X5,rfl⟩;refine⟨_,rfl,?_⟩)
   | (refine eR rfl 14 #[Yp Yv fmt,Yq iK] _ (hpe.out _ uZ) ?_ ?_;(· go_simp;done);rintro e w6 ⟨A6,c6,rfl,hP6,h61,Dn,X6,rfl⟩;refine⟨_,rfl,?_⟩))
  all_goals
   go_wp2_with fail;have hcall:=λW (hW:ac w W) (hP:a8 W A6 qs)=>EP A6 A qs.length n c6 c qs ps W rfl HN.out h61 hnc Dn dq hP (H.out.ai hW)
   refine(hcall _ uZ ?_).mono ?_
   ·try rw[under_under]at hP6
    first
     | (refine hP6.ai ?_;(repeat (first|exact ac.refl _|assumption|refine ac.under ?_ _|refine ac.alloc ?_ _|refine ac.drew ?_|refine ac.drewN ?_ _));done)
     | (have q:=yu (V:=(under (w.alloc (Yw #[Yp IntKind.i64 fmt,Yr A n c] 25)).drew X5)) (i:=0) (a:=Yy) (n:=0) (c:=0) hP6 uZ (Yp Yv fmt) (Yr A6 qs.length c6);simpa[go_sem]using q)
     | (have q:=yu (V:=w.alloc (Yw #[Yp IntKind.i64 fmt,Yr A n c] 25)) (i:=0) (a:=Yy) (n:=0) (c:=0) hP6 uZ (Yp Yv fmt) (Yr A6 qs.length c6);simpa[go_sem]using q)
   rintro e w7 ⟨rfl,X7,rfl⟩;obtain⟨b,hb⟩:∃b,b=decide (qs=ps):=⟨_,rfl⟩;have tv:=aa hb;rw[<-hb];clear hb hP6;cases b
   ·go_wp2;go_ret;rw[HV.out,if_neg (λhh=>of_decide_eq_false tv.out.symm hh.2)];exact⟨rfl,uZ⟩
   go_wp2;go_ret;rw[HV.out,if_pos ⟨trivial,of_decide_eq_true tv.out.symm⟩];exact⟨rfl,uZ⟩
 have z1:(er==0)=false:=by simpa using he
 have z2:(er != 0)=true:=by simpa using he
 have HE:=aa he
 have hpe:Hid (∀(W:YA),ac w W->Calls Tryz.prog 14 #[Yp Yv fmt,Yq iK] W λe w'=>e=Yx (Yu #[.agg #[Yp Yv 0,Yr Yy 0 0],Yp Yv (pl:Int),Yp Yv er])/\ac W w'):=aa λW hW=>(HP.out W hW).mono λe w' ⟨hu,h⟩=>by
  rcases h with⟨h0,_⟩|⟨_,h1⟩
  ·exact absurd h0 he
  exact⟨h1,hu⟩
 clear HP he;go_enter Tryz.func23,Tryz.ntmps23;go_wp2_with fail;refine(HK.out _).mono ?_;rintro e w2 ⟨rfl,rfl⟩;go_wp2_with fail
 go_region_law (first
  | (refine eR rfl 17 #[.agg #[Yp Yv fmt,Yr A n c]] _ (HB.out _ uZ) ?_ ?_;(· go_simp;done);rintro e w5 ⟨rfl,X5,rfl⟩;refine⟨_,rfl,?_⟩)
  | (refine eR rfl 14 #[Yp Yv fmt,Yq iK] _ (hpe.out _ uZ) ?_ ?_;(· go_simp;done);rintro e w6 ⟨rfl,X6,rfl⟩;refine⟨_,rfl,?_⟩))
 all_goals
  go_wp2;go_ret;rw[HV.out,if_neg (λhh=>HE.out hh.1)];exact⟨rfl,uZ⟩
theorem xI(A:Option Addr)(n c:Nat)(ps:List St.Pt)(w:YA)(hF:mP w fmt D S)(hn:ps.length=n)(hnc:n<=c)(dq:c<=9223372036854775807)(h:a8 w A ps)(hl:n<=9223372036854775807)(hr:(St.b8 ps).length<=1000000000) :
  Calls Tryz.prog 23 #[.agg #[Yp Yv fmt,Yr A n c]] w λe w'=>e=Yx (Yp Yv (St.fP S ps))/\ac w w':=J0 A n c ps w hF.sp hn hnc dq h hl hr
end
section
theorem Hm(f:List St.Pt)(j:Nat)(u:Value)(h:(cd f)[j]?=Yz u):∃k,∃hk:k<f.length,(j=k*3/\u=Ys f[k].1)\/(j=k*3+1/\u=Yq ⟨f[k].2.1.toArray⟩)\/(j=k*3+2/\u=Yq ⟨f[k].2.2.toArray⟩):=by
 have hlen:∀g:List St.Pt,(cd g).length=g.length*3:=by
  intro g
  induction g with
  | nil=>rfl
  | cons x g ih=>simp only[cd,List.flatMap_cons,List.length_append,List.length_cons,List.length_nil]at ih |-;omega
 have hj:j<(cd f).length:=(List.getElem?_eq_some_iff.1 h).1;rw[hlen]at hj;have hk:j / 3<f.length:=by omega
 obtain⟨a,b,c⟩:=AG f (j / 3) hk;refine⟨j / 3,hk,?_⟩;rcases(show j=j / 3*3\/j=j / 3*3+1\/j=j / 3*3+2 by omega)with e|e|e
 ·rw[<-e,h]at a;exact .inl ⟨e,Option.some.inj a⟩
 ·rw[<-e,h]at b;exact .inr (.inl ⟨e,Option.some.inj b⟩)
 rw[<-e,h]at c;exact .inr (.inr ⟨e,Option.some.inj c⟩)
theorem sX(g:List St.Pt):(cd g).length=g.length*3:=by
 induction g with
 | nil=>rfl
 | cons x g ih=>simp only[cd,List.flatMap_cons,List.length_append,List.length_cons,List.length_nil]at ih |-;omega
theorem I8(b off n c:Nat)(ps:List St.Pt)(w:YA)(hn:ps.length=n)(hb:b<w.1.size)(h:∀j (h:j<ps.length),w.cell? ⟨b,off+j*3,Yy⟩=Yz (Ys ps[j].1)/\w.cell? ⟨b,off+j*3+1,Yy⟩=Yz (Yq ⟨ps[j].2.1.toArray⟩)/\w.cell? ⟨b,off+j*3+2,Yy⟩=Yz (Yq ⟨ps[j].2.2.toArray⟩))(hl:n<=1000000000) :
  Calls Tryz.prog 55 #[Yr (Yz ⟨b,off,Yy⟩) n c] w λe w'=>∃v,e=Yx v/\w'.ownsRow w.1.size 64 3 v n (cd ps)/\ac w w':=by
 obtain⟨i0,hi,hz0,hz1,hz2⟩:=info_parts nP;have q:=λ(w:World) (a:Option Addr) (n c n' c':Nat)=>Lib.run_eql_slice_nil w 23 64 a n c n' c' Tryz.underlying23
 have hcells:∀(w1:YA),ac w w1->∀j u,(cd ps)[j]?=Yz u->w1.cell? ((⟨b,off,Yy⟩:Addr).add j)=Yz u:=λw1 hu j u hj=>by
  rw[Addr.add_lit];obtain⟨k,hk,h1⟩:=Hm ps j u hj;obtain⟨c0,c1,c2⟩:=h k hk;rcases h1 with⟨rfl,rfl⟩|⟨rfl,rfl⟩|⟨rfl,rfl⟩
  ·exact(hu.cell hb).trans c0
  ·exact(hu.cell hb).trans c1
  exact(hu.cell hb).trans c2
 have hone:∀u∈cd ps,u.oneCell'=true:=λu hu=>by
  unfold cd at hu;obtain⟨x,_,hx⟩:=List.mem_flatMap.1 hu;simp only[List.mem_cons,List.not_mem_nil,or_false]at hx;rcases hx with rfl|rfl|rfl<;>rfl
 have HC:=aa hcells;have HO:=aa hone;have hlen:=aa (show(cd ps).length=n*3 by rw[sX,hn]);clear hcells hone h;go_enter Tryz.func55,Tryz.ntmps55;go_wp2_with (at_builtin;refine wpList_append_own _ rfl _ _ 23 rfl w.1.size 64 i0 (.agg #[.bool false,.string ⟨#[]⟩,.string ⟨#[]⟩]) 3 40 Tryz.underlying23 hi hz0 hz1 hz2 rfl (by decide) _ _ _ rfl (World.ownsRow_made w #[] 0 (Nat.le_refl _) (Nat.zero_le _) rfl) ⟨b,off,none⟩ n c (cd ps) rfl ?qc1 ?qc2 ?qc3 ?qc4 ?qc5 ?qc6 ?_)
 case qc1=>exact hlen.out
 case qc2=>exact HC.out _ uZ
 case qc3=>exact HO.out
 case qc4=>unfold maxLen;omega
 case qc5=>omega
 case qc6=>simp
 intro v' w1 hown hgrow hnil;have hu:ac w w1:=ac.mk (((Below.refl _ w).alloc (Nat.le_refl _) _).grown hgrow (by simp) (by intro k hk;simp[Value.ownBlock]at hk;omega));have HH:=aa (And.intro hown hu);clear hown hu hgrow hnil;go_wp2;go_ret;exact⟨v',rfl,by simpa using HH.out.1,HH.out.2⟩
end
