/- The contracts of document's known, ascending and replaced, and of slices.Clone at parts. -/
import Derived.Test.YthoemdibbldndaaGreatDoorDcA
import Derived.Test.YthoemdibbldndaaGreatDoorSBuild
set_option linter.all false
set_option maxHeartbeats 0
set_option maxRecDepth 20000
open Go.Value renaming int->UM,string->UN,slice->UO,bool->UP,pointer->UQ,tuple->UR
open Go.IntKind renaming i64->US
open Go.Obj renaming cells->UT
open Go.Ending renaming returned->UU
open Option renaming none->UW,some->UX
open Go renaming World->UY
namespace Go.Proofs.YthoemdibbldndaaGreatDoor
open Go.RowKit
section
theorem qL(fmt:Int)(w:UY)(h:fmt=1\/fmt=2\/fmt=3):Calls Tryz.prog 45 #[UM US fmt] w λe w'=>e=UU (UP true)/\w=w':=by
 rcases h with rfl|rfl|rfl
 all_goals
  go_enter Tryz.func45,Tryz.ntmps45;go_wp2;go_ret;exact⟨rfl,rfl⟩
def fB(w:UY)(A:Option Addr)(rs:List (Int × Int)):Prop:=
 rs.length > 0->∃b off,A=UX ⟨b,off,UW⟩/\b<w.1.size/\∀j (h:j<rs.length),w.cell? ⟨b,off+j*2,UW⟩=UX (UM US rs[j].1)/\w.cell? ⟨b,off+j*2+1,UW⟩=UX (UM US rs[j].2)
theorem fB.ai{w w':UY}{A:Option Addr}{rs:List (Int × Int)}(h:fB w A rs)(u:ac w w'):fB w' A rs:=by
 intro h0;obtain⟨b,off,rfl,hb,hc⟩:=h h0;exact⟨b,off,rfl,Nat.lt_of_lt_of_le hb u.size,λj hj=>⟨(u.cell hb).trans (hc j hj).1,(u.cell hb).trans (hc j hj).2⟩⟩
def iy(w:UY)(B:Option Addr)(ts:List (List St.It)):Prop:=
 ts.length > 0->∃b off,B=UX ⟨b,off,UW⟩/\b<w.1.size/\∀j (h:j<ts.length),∃A c,w.cell? ⟨b,off+j,UW⟩=UX (UO A ts[j].length c)/\aO w A ts[j]/\ts[j].length<=c/\c<=9223372036854775807/\(A=UW->c=0)
theorem iy.ai{w w':UY}{B:Option Addr}{ts:List (List St.It)}(h:iy w B ts)(u:ac w w'):iy w' B ts:=by
 intro h0;obtain⟨b,off,rfl,hb,hc⟩:=h h0;refine⟨b,off,rfl,Nat.lt_of_lt_of_le hb u.size,λj hj=>?_⟩;obtain⟨A,c,g0,g1,g2,g3,g4⟩:=hc j hj;exact⟨A,c,(u.cell hb).trans g0,g1.ai u,g2,g3,g4⟩
theorem ud(n:Nat)(at':Int)(rs:List (Int × Int))(k:Nat)(h:k<rs.length):St.eI n at' (rs.drop k)=if rs[k].1<at'\/rs[k].2<rs[k].1\/(n:Int)<rs[k].2 then false else St.eI n rs[k].2 (rs.drop (k+1)):=by
 rw[List.drop_eq_getElem_cons h,St.eI]
def O6(w:UY)(rs:List (Int × Int))(n:Nat)(s5 dZ:Value)(wr:UY):Prop:=
 ∃(k:Nat) (a:Int),k<=rs.length/\dZ=UM US k/\s5=UM US a/\St.eI n 0 rs=St.eI n a (rs.drop k)/\ac w wr
theorem Ay(A:Option Addr)(n c L:Nat)(rs:List (Int × Int))(w:UY)(hn:rs.length=n)(h:fB w A rs)(hl:n<=1000000000) :
  Calls Tryz.prog 47 #[UO A n c,UM US (L:Int)] w λe w'=>e=UU (UP (St.eI L 0 rs))/\ac w w':=by
 have H:=aa h;have HN:=aa hn;clear h hn;go_enter Tryz.func47,Tryz.ntmps47;go_wp2;go_loopw [5,10] (λs5 dZ wr=>O6 w rs L s5 dZ wr) (λ_ dZ _=>n+1-(intOf dZ).toNat)
 case atStart=>exact⟨0,0,by omega,rfl,rfl,by simp,ac.refl _⟩
 case round=>
  obtain⟨k,a,hk,rfl,rfl,has,hu⟩:=hrel;have HU:=aa hu;have HAS:=aa has;have hN:=HN.out;clear hu has
  by_cases hlt:k<n
  ·have aS:k<rs.length:=by omega
   obtain⟨b,off,rfl,hb,hc⟩:=(H.out.ai HU.out) (by omega);obtain⟨c0,c1⟩:=hc k aS;have hd:=ud L a rs k aS;generalize rs[k]=r at c0 c1 hd;obtain⟨p,q⟩:=r;simp only at c0 c1 hd;haveI:af b wr:=af.of hb;have HD:=aa hd;clear hc aS hd
   by_cases h1:p<a
   ·have hf:=aa (show St.eI L 0 rs=false by rw[HAS.out,HD.out,if_pos (.inl h1)]);go_wp2;go_ret;exact⟨aD hf.out.symm,HU.out.trans uZ⟩
   by_cases h2:q<p
   ·have hf:=aa (show St.eI L 0 rs=false by rw[HAS.out,HD.out,if_pos (.inr (.inl h2))]);go_wp2;go_ret;exact⟨aD hf.out.symm,HU.out.trans uZ⟩
   by_cases h3:(L:Int)<q
   ·have hf:=aa (show St.eI L 0 rs=false by rw[HAS.out,HD.out,if_pos (.inr (.inr h3))]);go_wp2;go_ret;exact⟨aD hf.out.symm,HU.out.trans uZ⟩
   have hf:=aa (show St.eI L 0 rs=St.eI L q (rs.drop (k+1))by rw[HAS.out,HD.out,if_neg (by rintro (e|e|e);exact h1 e;exact h2 e;exact h3 e)]);go_wp2;exact⟨⟨k+1,q,by omega,congrArg (UM US) (by omega),rfl,hf.out,HU.out.trans uZ⟩,by simp[intOf];omega⟩
  have hkn:k=n:=by omega
  subst hkn;have hf:=aa (show St.eI L 0 rs=true by rw[HAS.out,List.drop_of_length_le (by omega)];rfl);clear hlt;go_wp2;go_ret;exact⟨aD hf.out.symm,HU.out⟩
end
section
theorem fH{P:Program}{ops:Array Oper}{o:Oper}{a:Act}{w:UY}{K:Act->UY->Prop}{Q:Exit->Act->UY->Prop}{E:Prop}
  (hg:o.guard=UW) (f:FuncId) (args:Array Value) (Post:Ending->UY->Prop) (hc:Calls P f args w Post)
  (hrun:(execOp a.eval o).run P w=.ok (.enter f args) w) (hK:∀e w',Post e w'->∃v,e=UU v/\K (a.put o.dst v) w') :
  if Region.wanted o (yielded ops a.tmps)=true then Oper.wp P o a w K Q else E:=by
 have hw:Region.wanted o (yielded ops a.tmps)=true:=by simp[Region.wanted,hg]
 rw[if_pos hw];unfold Oper.wp;rw[hrun];refine hc.mono ?_;intro e w' h;obtain⟨v,rfl,hk⟩:=hK e w' h;exact hk
theorem oK(a b:List St.It):bc (a++b)=bc a+bc b:=by unfold bc;rw[List.map_append,List.sum_append]
theorem Co(f:List St.It):bc (St.bH f)<=bc f:=by
 have key:∀(n:Nat) (f:List St.It),f.length=n->bc (St.bH f)<=bc f:=by
  intro n
  induction n with
  | zero=>intro f h;rw[List.eq_nil_of_length_eq_zero h];simp[St.bH]
  | succ n ih=>
   intro f h;rcases St.cG f with rfl|⟨a,b,rfl⟩
   ·simp at h
   rw[St.eE,cR];have h1:=mA (St.bH a) b;have h2:=ih a (by simpa using h);omega
 exact key _ f rfl
theorem Cp(a b:Nat):∀(f:List St.It) (m:Nat),bc (St.br a b m f)<=bc f
 | [],m=>by simp[St.br]
 | x :: f,m=>by
  rw[St.br,oK];have h:=Cp a b f (m+St.a7 x);have e:bc (x :: f)=x.2.1.length+bc f:=by simp[bc]
  have h1:bc (if x.1=1 then(if max a m-m<min b (m+x.2.1.length)-m then[((1:Int),(x.2.1.take (min b (m+x.2.1.length)-m)).drop (max a m-m),x.2.2)]else[])else(if a<=m/\m<b then[x]else[]))<=x.2.1.length:=by
   repeat' split
   all_goals simp[bc]
   all_goals omega
  omega
theorem KB(f:List St.It)(a:Nat)(O:List St.It)(rs:List (Int × Int))(ts:List (List St.It))(k:Nat)(h:k<rs.length)(h':k<ts.length) :
  St.ka f a O (rs.drop k) (ts.drop k)=St.ka f rs[k].2.toNat (St.bH (St.bH (O++St.br a rs[k].1.toNat 0 f)++ts[k])) (rs.drop (k+1)) (ts.drop (k+1)):=by
 rw[List.drop_eq_getElem_cons h,List.drop_eq_getElem_cons h',St.ka]
def K1(w:UY)(f:List St.It)(rs:List (Int × Int))(ts:List (List St.It))(s7 s8 wj:Value)(wr:UY):Prop:=
 ∃(k a:Nat) (O:List St.It) (A c:_),k<=rs.length/\wj=UM US k/\s8=UM US a/\s7=UO A O.length c/\aO wr A O/\(A=UW->O.length=0/\c=0)/\a<=St.ay f/\O.length<=1700*k/\bc O<=200000000*k /\
  St.eI (St.ay f) a (rs.drop k)=true/\St.ka f 0 [] rs ts=St.ka f a O (rs.drop k) (ts.drop k)/\ac w wr
theorem GK(A B C:Option Addr)(n c m d e0:Nat)(f:List St.It)(rs:List (Int × Int))(ts:List (List St.It))(w:UY)(hn:f.length=n)(hm:rs.length=m)(hm':ts.length=m)(h:aO w A f)(hB:fB w B rs)(hC:iy w C ts)
  (hl:n<=512) (ht:bc f<=100000000) (fj:m<=20) (hts:∀t∈ts,t.length<=1100/\bc t<=100000000) (ng:St.eI (St.ay f) 0 rs=true) :
  Calls Tryz.prog 54 #[UO A n c,UO B m d,UO C m e0] w λe w'=>∃v,e=UU v/\w'.ownsRow w.1.size 36 3 v (St.fw f rs ts).length (av (St.fw f rs ts))/\(St.fw f rs ts).length<=60000/\bc (St.fw f rs ts)<=100000000000/\ac w w':=by
 have H:=aa h;have HN:=aa hn;have HM:=aa hm;have Sr:=aa hm';have HB:=aa hB;have HC:=aa hC;have xK:=aa hts;have HT:=aa ht;have Uh:=jb f;have hle:=aa (λ(W:UY) (hW:ac w W)=>kx A n c f W hn (h.ai hW) (by omega) (by omega));have hsl:=aa (λ(W:UY) (hW:ac w W) (a b:Nat) (hab:a<=b) (hbl:b<=St.ay f)=>Fk A n c f a b W hn (h.ai hW) (by omega) (by omega) hab hbl);have zR:=aa ng;clear h hn hm hm' hB hC hts ht ng;obtain⟨L,hL⟩:∃L,L=St.ay f:=⟨_,rfl⟩;go_enter Tryz.func54,Tryz.ntmps54;go_wp2_with fail;go_loopw [7,8,17] (λs7 s8 wj wr=>K1 w f rs ts s7 s8 wj wr) (λ_ _ wj _=>m+1-(intOf wj).toNat)
 case atStart=>exact⟨0,0,[],UW,0,by omega,rfl,rfl,rfl,λh=>absurd h (by simp),λ_=>⟨rfl,rfl⟩,by omega,by simp,by simp[bc],by simpa using zR.out,by simp,ac.refl _⟩
 case round=>
  obtain⟨k,a,O,A7,c7,hk,rfl,rfl,rfl,hI,hA7,hal,NZ,hOt,has,hrp,hu⟩:=hrel;have HU:=aa hu;have HI:=aa hI;have P1:=aa hA7;have oR:=aa hrp;have hN:=HN.out;have hM:=HM.out;have Ui:=Sr.out;have hT:=HT.out;clear hu hI hA7 hrp
  by_cases hlt:k<m
  ·have aS:k<rs.length:=by omega
   have fM:k<ts.length:=by omega
   obtain⟨b,off,rfl,hb,hc⟩:=(HB.out.ai HU.out) (by omega);obtain⟨c0,c1⟩:=hc k aS;obtain⟨b2,off2,rfl,hb2,hc2⟩:=(HC.out.ai HU.out) (by omega);obtain⟨At,ct,g0,gI,gn,gc,gA⟩:=hc2 k fM;rw[ud _ _ rs k aS]at has;have gM:=KB f a O rs ts k aS fM;have fF:=xK.out ts[k] (List.getElem_mem fM);generalize rs[k]=r at c0 c1 has gM;generalize ts[k]=t at g0 gI gn gM fF;obtain⟨p,q⟩:=r;simp only at c0 c1 has gM
   split at has
   ·cases has
   rename_i hcond
   obtain⟨p',rfl⟩:∃p':Nat,p=p':=⟨p.toNat,by omega⟩;obtain⟨q',rfl⟩:∃q':Nat,q=q':=⟨q.toNat,by omega⟩;have hap:a<=p':=by omega
   have pc:p'<=q':=by omega
   have Oy:q'<=St.ay f:=by omega
   have Tf:p'<=St.ay f:=by omega
   simp only[Int.toNat_natCast]at gM;have Lw:=Cg a p' f 0;have Lx:=Cp a p' f 0;have bA:=aa (λW hW=>hsl.out W hW a p' hap Tf);generalize St.br a p' 0 f=P at gM Lw Lx bA;have iS:=St.mX (O++P);have ht1:=Co (O++P);rw[oK]at ht1;have qQ:=λ(AP:Option Addr) (cP:Nat) (W:UY) (hW:ac wr W) (vx:AP=UW->P.length=0/\cP=0) (hP:aO W AP P)=>uv A7 AP O.length c7 P.length cP O P W rfl rfl P1.out vx (HI.out.ai hW) hP (by omega) (by rw[oK];omega)
   obtain⟨Q1,hQ1⟩:∃Q1,Q1=St.bH (O++P):=⟨_,rfl⟩;rw[<-hQ1]at gM iS ht1 qQ;rw[List.length_append]at iS;have fk:=St.mX (Q1++t);have ht2:=Co (Q1++t);rw[oK]at ht2;rw[List.length_append]at fk;have Lz:=λ(AQ:Option Addr) (cQ:Nat) (W:UY) (hW:ac wr W) (SU:AQ=UW->Q1.length=0/\cQ=0) (hQ:aO W AQ Q1)=>uv AQ At Q1.length cQ t.length ct Q1 t W rfl rfl SU (λe=>by have:=gA e;omega) hQ (gI.ai hW) (by omega) (by rw[oK];omega)
   have hfin:∀(A8:Option Addr) (c8:Nat) (W:UY),aO W A8 (St.bH (Q1++t))->(A8=UW->(St.bH (Q1++t)).length=0/\c8=0)->ac w W->K1 w f rs ts (UO A8 (St.bH (Q1++t)).length c8) (UM US (q':Int)) (UM US ((k:Int)+1)) W:=λA8 c8 W h1 h2 h3=>
    ⟨k+1,q',_,A8,c8,by omega,congrArg (UM US) (by omega),rfl,rfl,h1,h2,Oy,by omega,by omega,has,by rw[oR.out,gM],h3⟩
   have dr:=aa hfin;have Nh:=aa qQ;have uY:=aa Lz;haveI:af b wr:=af.of hb;haveI:af b2 wr:=af.of hb2;have z1:(k:Int)<(m:Int):=by omega
   clear hc hc2 hcond gM qQ Lz hfin has gI iS ht1 fk ht2 Lw Lx fF aS fM;generalize St.bH (Q1++t)=Q2 at *;go_wp2_with fail;refine(bA.out _ (HU.out.trans uZ)).mono ?_;rintro e w3 ⟨vP,rfl,vG,hu3⟩;have cE:ac wr w3:=ac.trans (uZ) hu3;have d0:w3.cell? ⟨wr.1.size,0,UW⟩=UX (UM US (p':Int)):=(hu3.cell (p:=⟨wr.1.size,0,UW⟩) (by simp)).trans (by simp);have d1:w3.cell? ⟨wr.1.size,1,UW⟩=UX (UM US (q':Int)):=(hu3.cell (p:=⟨wr.1.size,1,UW⟩) (by simp)).trans (by simp);have g3:=(cE.cell (p:=⟨b2,off2+k,UW⟩) hb2).trans g0;obtain⟨AP,cP,rfl,_,_,vx⟩:=aT vG;have QG:=aX vG rfl;haveI:af wr.1.size w3:=af.of (cM _ _ d0);haveI:af b2 w3:=af.of (cM _ _ g3);have bm:=aa cE;have HP:=aa QG
   have JU:AP=UW->P.length=0/\cP=0:=λe=>by
    have:=vx e
    refine⟨?_,this⟩;subst e;rcases vG.2 with⟨e1,e2⟩|⟨g,cap,cur,e1,_⟩
    ·simpa using e2
    cases e1
   generalize wr.1.size=bx at *;clear hu3 cE vG QG c0 c1 g0 vx;go_wp2_with fail
   go_region_law (first
    | (refine fH rfl 98 #[UO A7 O.length c7,UO AP P.length cP] _ (Nh.out AP cP _ (bm.out.trans uZ) JU (HP.out.ai uZ)) ?_ ?_;(· go_simp;done);rintro e w5 ⟨v5,rfl,eY,bo⟩;obtain⟨A5,c5,rfl,_,_,hA5⟩:=aT eY;refine⟨_,rfl,?_⟩;have g5:=(bo.cell (p:=⟨b2,off2+k,UW⟩) (af.lt inferInstance)).trans g3;have d5:=(bo.cell (p:=⟨bx,1,UW⟩) (af.lt inferInstance)).trans d1;haveI:af b2 w5:=af.of (cM _ _ g5);haveI:af bx w5:=af.of (cM _ _ d5))
    | (refine fH rfl 98 #[UO A5 Q1.length c5,UO At t.length ct] _ (uY.out A5 c5 _ (bm.out.trans (ac.trans (ac.trans uZ bo) uZ)) (λe=>⟨by subst e;rcases eY.2 with⟨e1,e2⟩|⟨g,cap,cur,e1,_⟩<;>simp_all,hA5 e⟩) ((aX eY rfl).ai uZ)) ?_ ?_;(· go_simp;done);rintro e w6 ⟨v6,rfl,AY,eZ⟩;obtain⟨A6,c6,rfl,_,_,hA6⟩:=aT AY;refine⟨_,rfl,?_⟩;have d6:=(eZ.cell (p:=⟨bx,1,UW⟩) (af.lt inferInstance)).trans d5;haveI:af bx w6:=af.of (cM _ _ d6)))
   all_goals
    have RD:A6=UW->Q2.length=0/\c6=0:=λe=>⟨by subst e;rcases AY.2 with⟨e1,e2⟩|⟨g,cap,cur,e1,_⟩<;>simp_all,hA6 e⟩
    have HE:=aa (dr.out A6 c6 w6 (aX AY rfl) RD (HU.out.trans (bm.out.trans (ac.trans (ac.trans uZ bo) (ac.trans uZ eZ)))));clear eY AY bo eZ;go_wp2;exact⟨HE.out,by simp[intOf];omega⟩
  have hkn:k=m:=by omega
  subst hkn
  have hrl:St.fw f rs ts=St.bH (O++St.br a (St.ay f) 0 f):=by
   unfold St.fw;rw[oR.out,List.drop_of_length_le (by omega),List.drop_of_length_le (by omega)];rfl
  have Lw:=Cg a (St.ay f) f 0;have Lx:=Cp a (St.ay f) f 0;have bA:=aa (λW hW=>hsl.out W hW a (St.ay f) hal (Nat.le_refl _));generalize St.br a (St.ay f) 0 f=P at hrl Lw Lx bA;have iS:=St.mX (O++P);have ht1:=Co (O++P);rw[oK]at ht1;rw[List.length_append]at iS;have qQ:=λ(AP:Option Addr) (cP:Nat) (W:UY) (hW:ac wr W) (vx:AP=UW->P.length=0/\cP=0) (hP:aO W AP P)=>uv A7 AP O.length c7 P.length cP O P W rfl rfl P1.out vx (HI.out.ai hW) hP (by omega) (by rw[oK];omega)
  rw[<-hrl]at iS ht1 qQ;have Nh:=aa qQ;have HL:=aa (hle.out _ HU.out);clear hlt qQ hrl has;go_wp2_with fail;refine HL.out.mono ?_;rintro e w2 ⟨rfl,hu2⟩;have aZ:=aa hu2;clear hu2;go_wp2_with fail;refine(bA.out _ (HU.out.trans aZ.out)).mono ?_;rintro e w3 ⟨vP,rfl,vG,hu3⟩;obtain⟨AP,cP,rfl,_,_,vx⟩:=aT vG;have HP:=aa (aX vG rfl);have bm:=aa (aZ.out.trans hu3);have JU:AP=UW->P.length=0/\cP=0:=λe=>⟨by subst e;rcases vG.2 with⟨e1,e2⟩|⟨g,cap,cur,e1,_⟩<;>simp_all,vx e⟩
  clear hu3 vG vx;go_wp2_with fail;refine(Nh.out AP cP _ bm.out JU HP.out).mono ?_;rintro e w4 ⟨v4,rfl,l5,a6⟩;have HE:=aa (And.intro (dy l5 (by have:=(HU.out.trans bm.out).size;omega)) (HU.out.trans (bm.out.trans a6)));clear l5 a6;go_wp2;go_ret;exact⟨_,rfl,HE.out.1,by omega,by omega,HE.out.2⟩
end
section
def pD(b:Nat)(w:UY):Prop:=∃p,(p=UQ UW\/p=UQ (UX ⟨b,0,UW⟩))/\w.1[b]?=UX (UT #[p,UO UW 0 0] 92 (0,0))
theorem pD.ai{b:Nat}{a c:UY}(h:pD b a)(u:ac a c):pD b c:=by
 obtain⟨p,h1,h2⟩:=h;exact⟨p,h1,(u.below.block b (ae h2)).trans h2⟩
theorem pD.sb{B b:Nat}{w:UY}(h:pD b w)(hB:B<=b):SB B b [] w:=by
 obtain⟨p,h1,h2⟩:=h;rcases h1 with rfl|rfl
 ·exact .inl ⟨hB,_,h2,World.ownsRow_nil _ _ _ _,by simp[Value.ownBlock]⟩
 exact .inr ⟨hB,_,h2,World.ownsRow_nil _ _ _ _,by simp[Value.ownBlock]⟩
theorem zu(B b:Nat)(w:UY)(h:pD b w)(hB:B<=b) :
  Calls Tryz.prog 99 #[UQ (UX ⟨b,0,UW⟩)] w λe w'=>e=UU (UR #[])/\w'.1[b]?=UX (UT #[UQ (UX ⟨b,0,UW⟩),UO UW 0 0] 92 (0,0))/\Below B w w':=by
 obtain⟨p,h1,h2⟩:=h;rcases h1 with rfl|rfl
 ·refine(oY b w (ak h2 0) (by simp[World.shape?,h2]) (bk h2 0)).mono ?_;rintro e w' ⟨rfl,rfl⟩;exact⟨rfl,heap_setCell_same w b 0 _ _ _ h2,(Below.refl B w).setCell (p:=⟨b,0,UW⟩) hB _⟩
 refine(p8 b w (ak h2 0)).mono ?_;rintro e w' ⟨rfl,rfl⟩;exact⟨rfl,h2,Below.refl B _⟩
theorem uV(B b:Nat)(s:ByteArray)(w:UY)(h:pD b w)(hs:s.size=0)(hB:B<=b)(hBw:B<=w.1.size) :
  Calls Tryz.prog 56 #[UQ (UX ⟨b,0,UW⟩),UN s] w λe w'=>e=UU (UR #[UM US s.size,.nilIface])/\pD b w'/\Below B w w':=by
 obtain⟨i0,hi,hz0,hz1,hz2⟩:=info_parts DZ;go_enter Tryz.func56,Tryz.ntmps56;go_wp2_with (go_at_call 99;refine(zu B b _ h hB).mono ?_);rintro e w1 ⟨rfl,hbk,hb1⟩;have c0:w1.cell? ⟨b,0,UW⟩=UX (UQ (UX ⟨b,0,UW⟩)):=by rw[ak hbk];rfl
 have c1:w1.cell? ⟨b,1,UW⟩=UX (UO UW 0 0):=by rw[ak hbk];rfl
 go_wp2_with (at_builtin;refine Lib.wpList_append_own_string _ rfl _ _ 22 9 rfl B 5 i0 Tryz.underlying22 Tryz.underlying9 hi hz0 hz1 hz2 _ _ _ rfl (World.ownsRow_nil _ _ _ _) s rfl ?c3 ?c4 ?c5 ?_)
 case c3=>unfold maxLen;omega
 case c4=>omega
 case c5=>have:=hb1.size;omega
 intro v' w2 hown' hgrow hnil;obtain rfl:v'=UO UW 0 0:=by first|exact hnil|exact hnil.2 ⟨rfl,hs⟩
 have hb2:w2.1[b]?=UX (UT #[UQ (UX ⟨b,0,UW⟩),UO UW 0 0] 92 (0,0)):=by
  rw[hgrow.block b (ae hbk) (λe=>by simp[Value.ownBlock]at e)];exact hbk
 have d0:w2.cell? ⟨b,0,UW⟩=UX (UQ (UX ⟨b,0,UW⟩)):=by rw[ak hb2];rfl
 have d1:w2.cell? ⟨b,1,UW⟩=UX (UO UW 0 0):=by rw[ak hb2];rfl
 have f1:w2.frozen? ⟨b,1,UW⟩=false:=bk hb2 1
 have hfin:=aa (show pD b (w2.setCell ⟨b,1,UW⟩ (UO UW 0 0))/\Below B w (w2.setCell ⟨b,1,UW⟩ (UO UW 0 0))from
  ⟨⟨_,.inr rfl,heap_setCell_same w2 b 1 _ _ _ hb2⟩,(hb1.grown hgrow (by have:=hb1.size;omega) (λk hk=>by simp[Value.ownBlock]at hk)).setCell (p:=⟨b,1,UW⟩) hB _⟩)
 clear hown' hgrow hnil;go_wp2;go_ret2;exact⟨by first|rfl|(rw[hs];rfl),hfin.out.1,hfin.out.2⟩
def r7(B b:Nat)(l:List UInt8)(w:UY):Prop:=(l=[]/\pD b w/\B<=b)\/(l≠[]/\SB B b l w)
theorem r7.ai{B b:Nat}{l:List UInt8}{a c:UY}(h:r7 B b l a)(u:ac a c):r7 B b l c:=by
 rcases h with⟨h1,h2,h3⟩|⟨h1,h2⟩
 ·exact .inl ⟨h1,h2.ai u,h3⟩
 exact .inr ⟨h1,h2.ai u⟩
theorem CQ(B b:Nat)(l t:List UInt8)(w:UY)(h:r7 B b l w)(hlen:l.length+t.length<=140737488355328)(hBw:B<=w.1.size) :
  Calls Tryz.prog 56 #[UQ (UX ⟨b,0,UW⟩),UN ⟨t.toArray⟩] w λe w'=>e=UU (UR #[UM US (t.length:Int),.nilIface])/\r7 B b (l++t) w'/\Below B w w':=by
 have hz:(⟨t.toArray⟩:ByteArray).size=t.length:=by show t.toArray.size=_;simp
 have key:SB B b l w->l++t≠[]->Calls Tryz.prog 56 #[UQ (UX ⟨b,0,UW⟩),UN ⟨t.toArray⟩] w λe w'=>e=UU (UR #[UM US (t.length:Int),.nilIface])/\r7 B b (l++t) w'/\Below B w w':=λh1 h2=>by
  refine(wB B b l ⟨t.toArray⟩ w h1 (by rw[hz];exact hlen) hBw).mono ?_;rintro e w' ⟨rfl,h3,h4,_⟩;exact⟨by rw[hz],.inr ⟨h2,by simpa using h3⟩,h4⟩
 rcases h with⟨rfl,h2,h3⟩|⟨h1,h2⟩
 ·by_cases ht:t=[]
  ·subst ht;refine(uV B b ⟨#[]⟩ w h2 rfl h3 hBw).mono ?_;rintro e w' ⟨rfl,h4,h5⟩;exact⟨rfl,.inl ⟨rfl,h4,h3⟩,h5⟩
  exact key (h2.sb h3) (by simpa using ht)
 exact key h2 (by simp[h1])
theorem FO(B b:Nat)(l:List UInt8)(w:UY)(h:r7 B b l w) :
  Calls Tryz.prog 57 #[UQ (UX ⟨b,0,UW⟩)] w λe w'=>e=UU (UN ⟨l.toArray⟩)/\Below B w w':=by
 rcases h with⟨rfl,⟨p,_,h2⟩,_⟩|⟨h1,h2⟩
 ·exact B9 B b p w h2
 exact B8 B b l w h2 h1
def K0(w:UY)(b:Nat)(ps:List St.Pt)(n:Nat)(s9:Value)(wr:UY):Prop:=
 ∃k:Nat,k<=n/\s9=UM US k/\r7 w.1.size b (St.b6 (ps.take k)) wr/\ac w wr
theorem BR(ps:List St.Pt)(k:Nat)(h:k<ps.length):St.b6 (ps.take (k+1))=St.b6 (ps.take k)++ps[k].2.2:=by
 unfold St.b6;rw[List.take_add_one,List.getElem?_eq_getElem h,List.flatMap_append];simp
theorem tQ(ps:List St.Pt)(k:Nat):(St.b6 (ps.take k)).length<=(St.b6 ps).length:=by
 have e:St.b6 ps=St.b6 (ps.take k)++St.b6 (ps.drop k):=by
  conv=>lhs;rw[<-List.take_append_drop k ps]
  unfold St.b6;rw[List.flatMap_append]
 rw[e,List.length_append];omega
theorem qJ(fmt:Int)(A:Option Addr)(n c:Nat)(ps:List St.Pt)(w:UY)(hn:ps.length=n)(h:bn w A ps)(hl:n<=9223372036854775807)(hr:(St.b6 ps).length<=1000000000) :
  Calls Tryz.prog 17 #[.agg #[UM US fmt,UO A n c]] w λe w'=>e=UU (UN ⟨(St.b6 ps).toArray⟩)/\ac w w':=by
 have H:=aa h;have HN:=aa hn;have HR:=aa hr;clear h hn hr;go_enter Tryz.func17,Tryz.ntmps17;go_wp2_with fail;go_loopw [9] (λs9 wr=>K0 w (w.1.size+1) ps n s9 wr) (λs9 _=>n+1-(intOf s9).toNat)
 case atStart=>
  refine⟨0,by omega,rfl,.inl ⟨rfl,⟨UQ UW,.inl rfl,?_⟩,by omega⟩,uZ⟩;have:=heap_alloc_new (w.alloc (UT #[UM US fmt,UO A n c] 25)) (UT #[UQ UW,UO UW 0 0] 92)
  simpa using this
 case round=>
  obtain⟨k,hk,rfl,nx,hu⟩:=hrel;have HU:=aa hu;have xI:=aa nx;have hN:=HN.out;have hR:=HR.out;have hsz:=hu.size;clear hu nx
  by_cases hlt:k<n
  ·have aS:k<ps.length:=by omega
   obtain⟨b,off,rfl,hb,hc⟩:=(H.out.ai HU.out) (by omega);obtain⟨c0,c1,c2⟩:=hc k aS;have hrt:=BR ps k aS;have h1:=tQ ps (k+1);generalize ps[k]=x at c0 c1 c2 hrt;obtain⟨xu,xk,xr⟩:=x;simp only at c0 c1 c2 hrt;rw[hrt,List.length_append]at h1;have hwr:=aa (λ(W:UY) (hW:ac wr W)=>CQ w.1.size (w.1.size+1) (St.b6 (ps.take k)) xr W (xI.out.ai hW) (by omega) (by have:=hW.size;omega));rw[<-hrt]at hwr;haveI:af b wr:=af.of hb;clear hc aS hrt;go_wp2_with fail;refine(hwr.out _ uZ).mono ?_;rintro e w3 ⟨rfl,h3,h4⟩;have HE:=aa (show K0 w (w.1.size+1) ps n (UM US ((k:Int)+1)) w3 from⟨k+1,by omega,congrArg (UM US) (by omega),h3,ac.mk (((HU.out.trans uZ).below).trans h4)⟩);clear h3 h4;go_wp2;exact⟨HE.out,by simp[intOf];omega⟩
  have hkn:k=n:=by omega
  subst hkn;have hft:ps.take k=ps:=List.take_of_length_le (by omega);rw[hft]at xI;have hst:=aa (FO w.1.size (w.1.size+1) (St.b6 ps) wr xI.out);clear hlt hft;go_wp2_with fail;refine hst.out.mono ?_;rintro e w3 ⟨rfl,h4⟩;have HE:=aa (ac.mk (HU.out.below.trans h4));clear h4;go_wp2;go_ret;exact⟨rfl,HE.out⟩
end
section
structure r8 (w0:UY) (fmt:Int) (S:List UInt8->List St.Pt × Nat × Int):Prop where
 kn:fmt=1\/fmt=2\/fmt=3
 sW:∀(d:ByteArray) (w:UY),ac w0 w->d.size<=1000000000->Calls Tryz.prog 46 #[UM US fmt,UN d] w λe w'=>∃A c,e=UU (UR #[UO A (S d.1.1).1.length c,UM US ((S d.1.1).2.1:Int),UM US (S d.1.1).2.2])/\bn w' A (S d.1.1).1/\(S d.1.1).1.length<=c/\c<=9223372036854775807/\ac w w'
theorem r8.ai{a c:UY}{fmt:Int}{S:List UInt8->List St.Pt × Nat × Int}(h:r8 a fmt S)(u:ac a c):r8 c fmt S:=⟨h.kn,λd w hw=>h.sW d w (u.trans hw)⟩
structure l7 (w0:UY) (fmt:Int) (D:List UInt8->St.gg) (S:List UInt8->List St.Pt × Nat × Int):Prop where
 kn:fmt=1\/fmt=2\/fmt=3
 sW:∀(d:ByteArray) (w:UY),ac w0 w->d.size<=1000000000->Calls Tryz.prog 46 #[UM US fmt,UN d] w λe w'=>∃A c,e=UU (UR #[UO A (S d.1.1).1.length c,UM US ((S d.1.1).2.1:Int),UM US (S d.1.1).2.2])/\bn w' A (S d.1.1).1/\(S d.1.1).1.length<=c/\c<=9223372036854775807/\ac w w'
 dec:∀(d:ByteArray) (w:UY),ac w0 w->d.size<=1000000000->Calls Tryz.prog 51 #[UM US fmt,UN d] w λe w'=>∃A c,e=UU (UR #[UO A (D d.1.1).1.length c,UM US (D d.1.1).2.2.2])/\aO w' A (D d.1.1).1/\(D d.1.1).1.length<=c/\c<=9223372036854775807/\ac w w'
 cut:∀(d:ByteArray) (w:UY),ac w0 w->d.size<=1000000000->Calls Tryz.prog 49 #[UM US fmt,UN d] w λe w'=>∃A c,e=UU (UR #[UO A (D d.1.1).2.1.length c,UM US (D d.1.1).2.2.2])/\iw w' A (D d.1.1).2.1/\(D d.1.1).2.1.length<=c/\c<=9223372036854775807/\ac w w'
 enc:∀(A:Option Addr) (n c:Nat) (f:List St.It) (w:UY),ac w0 w->f.length=n->n<=c->c<=9223372036854775807->aO w A f->n<=1000000000->bc f<=1000000000000->Calls Tryz.prog 50 #[UM US fmt,UO A n c] w λe w'=>e=UU (UR #[UN ⟨(St.bj fmt f).1.toArray⟩,UM US (St.bj fmt f).2])/\ac w w'
 ok:∀d,(D d).2.2.2=0->St.uW d.length (D d)
theorem l7.sp{a:UY}{fmt:Int}{D:List UInt8->St.gg}{S:List UInt8->List St.Pt × Nat × Int}(h:l7 a fmt D S):r8 a fmt S:=⟨h.kn,h.sW⟩
theorem l7.ai{a c:UY}{fmt:Int}{D:List UInt8->St.gg}{S:List UInt8->List St.Pt × Nat × Int}(h:l7 a fmt D S)(u:ac a c):l7 c fmt D S:=
 ⟨h.kn,λd w hw=>h.sW d w (u.trans hw),λd w hw=>h.dec d w (u.trans hw),λd w hw=>h.cut d w (u.trans hw),λA n c f w hw=>h.enc A n c f w (u.trans hw),h.ok⟩
theorem gQ{W:UY}{A:Option Addr}{ps:List St.Pt}{g:Nat}{i:Int}{a:Option Addr}{n c:Nat}(h:bn W A ps)(hg:W.1[g]?=UX (UT #[UM US i,UO a n c] 25 (0,0)))(u v:Value) :
  bn ((W.setCell ⟨g,0,UW⟩ u).setCell ⟨g,1,UW⟩ v) A ps:=by
 intro h0;obtain⟨b,off,rfl,hb,hc⟩:=h h0
 have hne:b≠g:=by
  intro e;subst e;have h1:=(hc 0 h0).1;rw[ak hg]at h1
  match hm:off+0*3,h1 with
  | 0,h1=>simp at h1
  | 1,h1=>simp at h1
  | k+2,h1=>simp at h1
 have hbl:∀off',((W.setCell ⟨g,0,UW⟩ u).setCell ⟨g,1,UW⟩ v).cell? ⟨b,off',UW⟩=W.cell? ⟨b,off',UW⟩:=λoff'=>
  World.cell?_of_block (a:=⟨b,off',UW⟩) ((Below.heap_setCell _ ⟨g,1,UW⟩ v b hne).trans (Below.heap_setCell W ⟨g,0,UW⟩ u b hne))
 refine⟨b,off,rfl,by simpa using hb,λj hj=>?_⟩;rw[hbl,hbl,hbl];exact hc j hj
section
variable {fmt:Int} {D:List UInt8->St.gg} {S:List UInt8->List St.Pt × Nat × Int}
def ua(fmt:Int)(R:List St.Pt × Nat × Int)(w:UY)(e:Ending)(w':UY):Prop:=
 ac w w'/\((R.2.2=0/\∃A c,e=UU (UR #[.agg #[UM US fmt,UO A R.1.length c],UM US 0,UM US 0])/\bn w' A R.1/\R.1.length<=c/\c<=9223372036854775807)\/
  (R.2.2≠0/\e=UU (UR #[.agg #[UM US 0,UO UW 0 0],UM US (R.2.1:Int),UM US R.2.2])))
theorem xW(d:ByteArray)(w:UY)(hF:r8 w fmt S)(hd:d.size<=1000000000):Calls Tryz.prog 14 #[UM US fmt,UN d] w (ua fmt (S d.1.1) w):=by
 have HK:=aa (λW=>qL fmt W hF.kn);have HS:=aa (λW (hW:ac w W)=>hF.sW d W hW hd);generalize S d.1.1=R at HS |-;obtain⟨ps,pl,er⟩:=R;clear hF;go_enter Tryz.func14,Tryz.ntmps14;go_wp2_with fail;refine(HK.out _).mono ?_;rintro e w2 ⟨rfl,rfl⟩;go_wp2_with fail;refine(HS.out _ uZ).mono ?_;rintro e w3 ⟨A,c,rfl,hP,h1,h2,hu⟩;have hu':ac w w3:=ac.trans (uZ) hu;have hb3:=(hu.below.block w.1.size (by simp)).trans (heap_alloc_new w (UT #[UM US 0,UO UW 0 0] 25));have d0:w3.cell? ⟨w.1.size,0,UW⟩=UX (UM US 0):=ak hb3 0;have d1:w3.cell? ⟨w.1.size,1,UW⟩=UX (UO UW 0 0):=ak hb3 1;have f0:w3.frozen? ⟨w.1.size,0,UW⟩=false:=bk hb3 0;have f1:w3.frozen? ⟨w.1.size,1,UW⟩=false:=bk hb3 1;haveI:af w.1.size w3:=af.of (ae hb3);have kN:∀u v,ac w ((w3.setCell ⟨w.1.size,0,UW⟩ u).setCell ⟨w.1.size,1,UW⟩ v):=λu v=>ac.mk ((hu'.below.setCell (p:=⟨w.1.size,0,UW⟩) (Nat.le_refl _) u).setCell (p:=⟨w.1.size,1,UW⟩) (Nat.le_refl _) v)
 have Ag:=aa kN;have Nq:=aa (λu v=>gQ hP hb3 u v);simp only at h1 |-;clear hu hu' hb3 kN hP
 by_cases he:er=0
 ·subst he;go_wp2;refine bodyPost_ret (v:=UR #[.agg #[UM US fmt,UO A ps.length c],UM US 0,UM US 0]) ?_ rfl ?_
  ·simp[results,Tryz.results14,go_sem,d0,d1]
  exact⟨Ag.out _ _,.inl ⟨rfl,A,c,rfl,Nq.out _ _,h1,h2⟩⟩
 have z1:(er==0)=false:=by simpa using he
 have z2:(er != 0)=true:=by simpa using he
 have HE:=aa he;clear he;go_wp2;refine bodyPost_ret (v:=UR #[.agg #[UM US 0,UO UW 0 0],UM US pl,UM US er]) ?_ rfl ?_
 ·simp[results,Tryz.results14,go_sem,d0,d1]
 exact⟨Ag.out _ _,.inr ⟨HE.out,rfl⟩⟩
theorem EJ(d:ByteArray)(w:UY)(hF:l7 w fmt D S)(hd:d.size<=1000000000):Calls Tryz.prog 14 #[UM US fmt,UN d] w (ua fmt (S d.1.1) w):=xW d w hF.sp hd
end
end
section
variable {fmt:Int} {D:List UInt8->St.gg} {S:List UInt8->List St.Pt × Nat × Int}
theorem sO(ps:List St.Pt)(k:Nat)(h:k<ps.length):ps[k].2.2.length<=(St.b6 ps).length:=by
 have h1:=tQ ps (k+1);rw[BR ps k h,List.length_append]at h1;omega
def dp(R:St.gg)(w:UY)(e:Ending)(w':UY):Prop:=
 ∃A c,e=UU (UR #[UO A R.1.length c,UM US R.2.2.2])/\aO w' A R.1/\R.1.length<=c/\c<=9223372036854775807/\ac w w'
theorem dp.kT{R:St.gg}{w w':UY}(h:R=([],[],0,6))(u:ac w w'):dp R w (UU (UR #[UO UW 0 0,UM US 6])) w':=by
 subst h;exact⟨UW,0,rfl,λh=>absurd h (by simp),by simp,by omega,u⟩
theorem oX{ps:List St.Pt}{k:Int}(h:St.fO ps k=(false,[],[])):St.bL D ps k=([],[],0,6):=by unfold St.bL;rw[h];rfl
theorem Jx(A:Option Addr)(n c:Nat)(ps:List St.Pt)(k:Int)(w:UY)(hk:fmt=1\/fmt=2\/fmt=3)(hD:∀(d:ByteArray) (W:UY),ac w W->d.size<=1000000000->Calls Tryz.prog 51 #[UM US fmt,UN d] W (dp (D d.1.1) W))(hn:ps.length=n)(h:bn w A ps)(hl:n<=9223372036854775807)(hr:(St.b6 ps).length<=1000000000) :
  Calls Tryz.prog 26 #[.agg #[UM US fmt,UO A n c],UM US k] w (dp (St.bL D ps k) w):=by
 have HK:=aa (λW=>qL fmt W hk);have HD:=aa hD;have H:=aa h;have HN:=aa hn;have HR:=aa hr;clear hk hD h hn hr
 by_cases k0:k<0
 ·have hm:=aa (show St.bL D ps k=([],[],0,6)from oX (by unfold St.fO;rw[if_neg (by omega)]));go_enter Tryz.func26,Tryz.ntmps26;go_wp2_with fail;refine(HK.out _).mono ?_;rintro e w2 ⟨rfl,rfl⟩;go_wp2;go_ret2;exact dp.kT hm.out uZ
 obtain⟨j,rfl⟩:∃j:Nat,k=j:=⟨k.toNat,by omega⟩
 by_cases kn:j<n
 ·have hj:j<ps.length:=by rw[HN.out];exact kn
  obtain⟨b,off,rfl,hb,hc⟩:=H.out (by omega);obtain⟨c0,c1,c2⟩:=hc j hj;have hpt:St.fO ps (j:Int)=ps[j]:=by unfold St.fO;rw[if_pos (by omega),Int.toNat_natCast,List.getElem?_eq_getElem hj];rfl
  have hrl:=sO ps j hj;have jK:St.bL D ps (j:Int)=if ps[j].1=true then D ps[j].2.2 else([],[],0,6):=by unfold St.bL;rw[hpt]
  generalize ps[j]=x at c0 c1 c2 hrl jK;obtain⟨xu,xk,xr⟩:=x;simp only at c0 c1 c2 hrl jK;haveI:af b w:=af.of hb;have hR:=HR.out;have z1:¬(n:Int)<=(j:Int):=by omega
  have z2:(j:Int)<(n:Int):=by omega
  have z3:¬(j:Int)<0:=by omega
  have u0:=aa jK;clear hc hj hpt k0 jK;cases xu
  ·have hm:=aa (show St.bL D ps (j:Int)=([],[],0,6)by rw[u0.out];rfl);go_enter Tryz.func26,Tryz.ntmps26;go_wp2_with fail;refine(HK.out _).mono ?_;rintro e w2 ⟨rfl,rfl⟩;go_wp2;go_ret2;exact dp.kT hm.out uZ
  have hm:=aa (show St.bL D ps (j:Int)=D xr by rw[u0.out];rfl);have ey:=aa (λW hW=>HD.out ⟨xr.toArray⟩ W hW (by show xr.toArray.size<=_;simp;omega));go_enter Tryz.func26,Tryz.ntmps26;go_wp2_with fail;refine(HK.out _).mono ?_;rintro e w2 ⟨rfl,rfl⟩;go_wp2_with fail;go_region_law (refine fH rfl 51 #[UM US fmt,UN ⟨xr.toArray⟩] _ (ey.out _ uZ) ?_ ?_;(· go_simp;done);rintro e w3 ⟨A3,c3,rfl,hI,h1,h2,hu⟩;refine⟨_,rfl,?_⟩)
  all_goals
   have HE:=aa (show dp (D xr) w (UU (UR #[UO A3 (D xr).1.length c3,UM US (D xr).2.2.2])) w3 from⟨A3,c3,rfl,hI,h1,h2,ac.trans (uZ) hu⟩);clear hI h1 h2 hu;go_wp2;go_ret2;rw[hm.out];exact HE.out
 have hm:=aa (show St.bL D ps (j:Int)=([],[],0,6)from oX (by
  unfold St.fO
  rw[if_pos (by omega),Int.toNat_natCast,List.getElem?_eq_none (by rw[HN.out];omega)];rfl))
 have z1:(n:Int)<=(j:Int):=by omega
 have z3:¬(j:Int)<0:=by omega
 go_enter Tryz.func26,Tryz.ntmps26;go_wp2_with fail;refine(HK.out _).mono ?_;rintro e w2 ⟨rfl,rfl⟩;go_wp2;go_ret2;exact dp.kT hm.out uZ
theorem xT(A:Option Addr)(n c:Nat)(ps:List St.Pt)(k:Int)(w:UY)(hF:l7 w fmt D S)(hn:ps.length=n)(h:bn w A ps)(hl:n<=9223372036854775807)(hr:(St.b6 ps).length<=1000000000) :
  Calls Tryz.prog 26 #[.agg #[UM US fmt,UO A n c],UM US k] w (dp (St.bL D ps k) w):=
 Jx A n c ps k w hF.kn (λd W hW hd=>hF.dec d W hW hd) hn h hl hr
end
section
theorem vX{V W:UY}{A:Option Addr}{ps:List St.Pt}{i:Int}{a:Option Addr}{n c:Nat}(h:bn W A ps)(u':ac (V.alloc (UT #[UM US i,UO a n c] 25)) W)(u v:Value) :
  bn ((W.setCell ⟨V.1.size,0,UW⟩ u).setCell ⟨V.1.size,1,UW⟩ v) A ps:=
 gQ h ((u'.below.block V.1.size (by simp)).trans (heap_alloc_new V (UT #[UM US i,UO a n c] 25))) u v
variable {fmt:Int} {D:List UInt8->St.gg} {S:List UInt8->List St.Pt × Nat × Int}
theorem GL(A:Option Addr)(n c:Nat)(ps:List St.Pt)(w:UY)(hF:r8 w fmt S)(hn:ps.length=n)(hnc:n<=c)(dz:c<=9223372036854775807)(h:bn w A ps)(hl:n<=9223372036854775807)(hr:(St.b6 ps).length<=1000000000) :
  Calls Tryz.prog 23 #[.agg #[UM US fmt,UO A n c]] w λe w'=>e=UU (UM US (St.fA S ps))/\ac w w':=by
 have HK:=aa (λW=>qL fmt W hF.kn);have HB:=aa (λW (hW:ac w W)=>qJ fmt A n c ps W hn (h.ai hW) hl hr);have HP:=aa (λW (hW:ac w W)=>xW ⟨(St.b6 ps).toArray⟩ W (hF.ai hW) (by show(St.b6 ps).toArray.size<=_;simpa using hr));have H:=aa h;have HN:=aa hn;have hv:St.fA S ps=if(S (St.b6 ps)).2.2=0/\(S (St.b6 ps)).1=ps then 0 else 11:=rfl
 have ov:(⟨(St.b6 ps).toArray⟩:ByteArray).1.1=St.b6 ps:=by simp
 rw[ov]at HP;generalize(⟨(St.b6 ps).toArray⟩:ByteArray)=ik at HB HP;generalize S (St.b6 ps)=R at hv HP;obtain⟨qs,pl,er⟩:=R;simp only at hv;have HV:=aa hv;clear hF h hn hr hv ov
 by_cases he:er=0
 ·subst he;have hpe:Hid (∀(W:UY),ac w W->Calls Tryz.prog 14 #[UM US fmt,UN ik] W λe w'=>∃A' c',e=UU (UR #[.agg #[UM US fmt,UO A' qs.length c'],UM US 0,UM US 0])/\bn w' A' qs/\qs.length<=c'/\c'<=9223372036854775807/\ac W w'):=aa λW hW=>(HP.out W hW).mono λe w' ⟨hu,h⟩=>by
   rcases h with⟨_,A',c',h1,h2,h3,h4⟩|⟨h0,_⟩
   ·exact⟨A',c',h1,h2,h3,h4,hu⟩
   exact absurd rfl h0
  clear HP;go_enter Tryz.func23,Tryz.ntmps23;go_wp2_with fail;refine(HK.out _).mono ?_;rintro e w2 ⟨rfl,rfl⟩;go_wp2_with fail
  go_region_law (first
   | (refine fH rfl 17 #[.agg #[UM US fmt,UO A n c]] _ (HB.out _ uZ) ?_ ?_;(· go_simp;done);rintro e w5 ⟨rfl,X5,rfl⟩;refine⟨_,rfl,?_⟩)
   | (refine fH rfl 14 #[UM US fmt,UN ik] _ (hpe.out _ uZ) ?_ ?_;(· go_simp;done);rintro e w6 ⟨A6,c6,rfl,hP6,h61,AL,X6,rfl⟩;refine⟨_,rfl,?_⟩))
  all_goals
   go_wp2_with fail;have hcall:=λW (hW:ac w W) (hP:bn W A6 qs)=>Cb A6 A qs.length n c6 c qs ps W rfl HN.out h61 hnc AL dz hP (H.out.ai hW)
   refine(hcall _ uZ ?_).mono ?_
   ·try rw[under_under]at hP6
    first
     | (refine hP6.ai ?_;(repeat (first|exact ac.refl _|assumption|refine ac.under ?_ _|refine ac.alloc ?_ _|refine ac.drew ?_|refine ac.drewN ?_ _));done)
     | (have q:=vX (V:=(under (w.alloc (UT #[UM IntKind.i64 fmt,UO A n c] 25)).drew X5)) (i:=0) (a:=UW) (n:=0) (c:=0) hP6 uZ (UM US fmt) (UO A6 qs.length c6);simpa[go_sem]using q)
     | (have q:=vX (V:=w.alloc (UT #[UM IntKind.i64 fmt,UO A n c] 25)) (i:=0) (a:=UW) (n:=0) (c:=0) hP6 uZ (UM US fmt) (UO A6 qs.length c6);simpa[go_sem]using q)
   rintro e w7 ⟨rfl,X7,rfl⟩;obtain⟨b,hb⟩:∃b,b=decide (qs=ps):=⟨_,rfl⟩;have rT:=aa hb;rw[<-hb];clear hb hP6;cases b
   ·go_wp2;go_ret;rw[HV.out,if_neg (λhh=>of_decide_eq_false rT.out.symm hh.2)];exact⟨rfl,uZ⟩
   go_wp2;go_ret;rw[HV.out,if_pos ⟨trivial,of_decide_eq_true rT.out.symm⟩];exact⟨rfl,uZ⟩
 have z1:(er==0)=false:=by simpa using he
 have z2:(er != 0)=true:=by simpa using he
 have HE:=aa he
 have hpe:Hid (∀(W:UY),ac w W->Calls Tryz.prog 14 #[UM US fmt,UN ik] W λe w'=>e=UU (UR #[.agg #[UM US 0,UO UW 0 0],UM US (pl:Int),UM US er])/\ac W w'):=aa λW hW=>(HP.out W hW).mono λe w' ⟨hu,h⟩=>by
  rcases h with⟨h0,_⟩|⟨_,h1⟩
  ·exact absurd h0 he
  exact⟨h1,hu⟩
 clear HP he;go_enter Tryz.func23,Tryz.ntmps23;go_wp2_with fail;refine(HK.out _).mono ?_;rintro e w2 ⟨rfl,rfl⟩;go_wp2_with fail
 go_region_law (first
  | (refine fH rfl 17 #[.agg #[UM US fmt,UO A n c]] _ (HB.out _ uZ) ?_ ?_;(· go_simp;done);rintro e w5 ⟨rfl,X5,rfl⟩;refine⟨_,rfl,?_⟩)
  | (refine fH rfl 14 #[UM US fmt,UN ik] _ (hpe.out _ uZ) ?_ ?_;(· go_simp;done);rintro e w6 ⟨rfl,X6,rfl⟩;refine⟨_,rfl,?_⟩))
 all_goals
  go_wp2;go_ret;rw[HV.out,if_neg (λhh=>HE.out hh.1)];exact⟨rfl,uZ⟩
theorem vo(A:Option Addr)(n c:Nat)(ps:List St.Pt)(w:UY)(hF:l7 w fmt D S)(hn:ps.length=n)(hnc:n<=c)(dz:c<=9223372036854775807)(h:bn w A ps)(hl:n<=9223372036854775807)(hr:(St.b6 ps).length<=1000000000) :
  Calls Tryz.prog 23 #[.agg #[UM US fmt,UO A n c]] w λe w'=>e=UU (UM US (St.fA S ps))/\ac w w':=GL A n c ps w hF.sp hn hnc dz h hl hr
end
section
theorem Ez(f:List St.Pt)(j:Nat)(u:Value)(h:(bW f)[j]?=UX u):∃k,∃hk:k<f.length,(j=k*3/\u=UP f[k].1)\/(j=k*3+1/\u=UN ⟨f[k].2.1.toArray⟩)\/(j=k*3+2/\u=UN ⟨f[k].2.2.toArray⟩):=by
 have hlen:∀g:List St.Pt,(bW g).length=g.length*3:=by
  intro g
  induction g with
  | nil=>rfl
  | cons x g ih=>simp only[bW,List.flatMap_cons,List.length_append,List.length_cons,List.length_nil]at ih |-;omega
 have hj:j<(bW f).length:=(List.getElem?_eq_some_iff.1 h).1;rw[hlen]at hj;have hk:j / 3<f.length:=by omega
 obtain⟨a,b,c⟩:=xR f (j / 3) hk;refine⟨j / 3,hk,?_⟩;rcases(show j=j / 3*3\/j=j / 3*3+1\/j=j / 3*3+2 by omega)with e|e|e
 ·rw[<-e,h]at a;exact .inl ⟨e,Option.some.inj a⟩
 ·rw[<-e,h]at b;exact .inr (.inl ⟨e,Option.some.inj b⟩)
 rw[<-e,h]at c;exact .inr (.inr ⟨e,Option.some.inj c⟩)
theorem rJ(g:List St.Pt):(bW g).length=g.length*3:=by
 induction g with
 | nil=>rfl
 | cons x g ih=>simp only[bW,List.flatMap_cons,List.length_append,List.length_cons,List.length_nil]at ih |-;omega
theorem FP(b off n c:Nat)(ps:List St.Pt)(w:UY)(hn:ps.length=n)(hb:b<w.1.size)(h:∀j (h:j<ps.length),w.cell? ⟨b,off+j*3,UW⟩=UX (UP ps[j].1)/\w.cell? ⟨b,off+j*3+1,UW⟩=UX (UN ⟨ps[j].2.1.toArray⟩)/\w.cell? ⟨b,off+j*3+2,UW⟩=UX (UN ⟨ps[j].2.2.toArray⟩))(hl:n<=1000000000) :
  Calls Tryz.prog 55 #[UO (UX ⟨b,off,UW⟩) n c] w λe w'=>∃v,e=UU v/\w'.ownsRow w.1.size 64 3 v n (bW ps)/\ac w w':=by
 obtain⟨i0,hi,hz0,hz1,hz2⟩:=info_parts mV;have q:=λ(w:World) (a:Option Addr) (n c n' c':Nat)=>Lib.run_eql_slice_nil w 23 64 a n c n' c' Tryz.underlying23
 have hcells:∀(w1:UY),ac w w1->∀j u,(bW ps)[j]?=UX u->w1.cell? ((⟨b,off,UW⟩:Addr).add j)=UX u:=λw1 hu j u hj=>by
  rw[Addr.add_lit];obtain⟨k,hk,h1⟩:=Ez ps j u hj;obtain⟨c0,c1,c2⟩:=h k hk;rcases h1 with⟨rfl,rfl⟩|⟨rfl,rfl⟩|⟨rfl,rfl⟩
  ·exact(hu.cell hb).trans c0
  ·exact(hu.cell hb).trans c1
  exact(hu.cell hb).trans c2
 have hone:∀u∈bW ps,u.oneCell'=true:=λu hu=>by
  unfold bW at hu;obtain⟨x,_,hx⟩:=List.mem_flatMap.1 hu;simp only[List.mem_cons,List.not_mem_nil,or_false]at hx;rcases hx with rfl|rfl|rfl<;>rfl
 have HC:=aa hcells;have HO:=aa hone;have hlen:=aa (show(bW ps).length=n*3 by rw[rJ,hn]);clear hcells hone h;go_enter Tryz.func55,Tryz.ntmps55;go_wp2_with (at_builtin;refine wpList_append_own _ rfl _ _ 23 rfl w.1.size 64 i0 (.agg #[.bool false,.string ⟨#[]⟩,.string ⟨#[]⟩]) 3 40 Tryz.underlying23 hi hz0 hz1 hz2 rfl (by decide) _ _ _ rfl (World.ownsRow_made w #[] 0 (Nat.le_refl _) (Nat.zero_le _) rfl) ⟨b,off,none⟩ n c (bW ps) rfl ?qc1 ?qc2 ?qc3 ?qc4 ?qc5 ?qc6 ?_)
 case qc1=>exact hlen.out
 case qc2=>exact HC.out _ uZ
 case qc3=>exact HO.out
 case qc4=>unfold maxLen;omega
 case qc5=>omega
 case qc6=>simp
 intro v' w1 hown hgrow hnil;have hu:ac w w1:=ac.mk (((Below.refl _ w).alloc (Nat.le_refl _) _).grown hgrow (by simp) (by intro k hk;simp[Value.ownBlock]at hk;omega));have HH:=aa (And.intro hown hu);clear hown hu hgrow hnil;go_wp2;go_ret;exact⟨v',rfl,by simpa using HH.out.1,HH.out.2⟩
end
