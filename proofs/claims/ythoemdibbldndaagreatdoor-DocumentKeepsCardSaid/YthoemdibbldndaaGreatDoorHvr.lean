/- The contracts of the makers longer and Raws at any format: pieces, each in a form of its. -/
import Derived.Test.YthoemdibbldndaaGreatDoorHvd
set_option linter.all false
set_option maxHeartbeats 0
set_option maxRecDepth 20000
open Go.Value renaming int->Yh,string->Yi,slice->Yj,pointer->Yl
open Go.IntKind renaming i64->Yn
open Go.Ending renaming returned->Yp
open Option renaming none->Yq,some->Yr
open Go renaming World->Ys
namespace Go.Proofs.YthoemdibbldndaaGreatDoor
open Go.RowKit
section
theorem JT(fmt:Int)(hk:fmt=1\/fmt=2\/fmt=3)(B g P:Nat)(p:St.It)(w:Ys)(hG:bp w B g P)(hP:P<=1000000)(hu:(St.aK fmt p).length<=1000000) :
  Calls Tryz.prog 175 #[Yl (Yr ⟨g,0,Yq⟩),Yh Yn fmt,.agg #[Yh Yn p.1,Yi ⟨p.2.1.toArray⟩,Yh Yn p.2.2],Yi ⟨(St.aK fmt p).toArray⟩] w λe w'=>∃b:List UInt8,e=Yp (Yi ⟨b.toArray⟩)/\St.jU fmt p b/\bp w' B g (P+1)/\w.grownBy w' (Yr g):=by
 obtain⟨k,x,i⟩:=p;have fin:∀(W:Ys) (b:List UInt8),ac w W->St.jU fmt (k,x,i) b->∃b':List UInt8,Ending.returned (Yi ⟨b.toArray⟩)=Yp (Yi ⟨b'.toArray⟩)/\St.jU fmt (k,x,i) b'/\bp W B g (P+1)/\w.grownBy W (Yr g):=λW b hW hb=>⟨b,rfl,hb,(hG.ai hW).le (by omega),hW.gb _⟩
 have gX:=aa fin;have HG:=aa hG;obtain⟨ka,hB⟩:=hG.lt;clear fin hG;simp only at hu |-;rcases hk with rfl|rfl|rfl
 ·have FU:=aa (λW (hW:ac w W)=>gX.out W _ hW (.inl rfl));have NL:=jR ⟨x.toArray⟩ [62];have Gv:=jR ⟨x.toArray⟩ [125];have hxl:((⟨x.toArray⟩:ByteArray).1.1)=x:=by simp
  rw[hxl]at NL Gv
  by_cases h3:x=[62]
  ·subst h3;clear NL Gv hxl
   by_cases hk1:k=1
   ·subst hk1;generalize(⟨(St.aK 1 (1,[62],i)).toArray⟩:ByteArray)=uu at *;go_enter Tryz.func175,Tryz.ntmps175;go_wp2;go_ret;exact gX.out _ [38,103,116,59] (uZ) (.inr (.inl ⟨rfl,rfl,.inl ⟨rfl,rfl⟩⟩))
   have q2:(k==1)=false:=by simpa using hk1
   clear hk1;generalize(⟨(St.aK 1 (k,[62],i)).toArray⟩:ByteArray)=uu at *;go_enter Tryz.func175,Tryz.ntmps175;go_wp2;go_ret;exact FU.out _ (uZ)
  by_cases h4:x=[125]
  ·subst h4;clear NL Gv hxl h3
   by_cases hk1:k=1
   ·subst hk1;generalize(⟨(St.aK 1 (1,[125],i)).toArray⟩:ByteArray)=uu at *;go_enter Tryz.func175,Tryz.ntmps175;go_wp2;go_ret;exact gX.out _ [38,114,98,59] (uZ) (.inr (.inl ⟨rfl,rfl,.inr ⟨rfl,rfl⟩⟩))
   have q2:(k==1)=false:=by simpa using hk1
   clear hk1;generalize(⟨(St.aK 1 (k,[125],i)).toArray⟩:ByteArray)=uu at *;go_enter Tryz.func175,Tryz.ntmps175;go_wp2;go_ret;exact FU.out _ (uZ)
  rw[decide_eq_false h3]at NL;rw[decide_eq_false h4]at Gv;generalize(⟨(St.aK 1 (k,x,i)).toArray⟩:ByteArray)=uu at *;generalize(⟨x.toArray⟩:ByteArray)=s at *;clear h3 h4 hxl;go_enter Tryz.func175,Tryz.ntmps175;go_wp2;go_ret;exact FU.out _ (uZ)
 ·by_cases hx:k=1/\x=[32]
  ·obtain⟨rfl,rfl⟩:=hx;generalize(⟨(St.aK 2 (1,[32],i)).toArray⟩:ByteArray)=uu at *;go_enter Tryz.func175,Tryz.ntmps175;go_wp2;go_ret;exact gX.out _ [92,115] (uZ) (.inr (.inr ⟨rfl,.inl ⟨rfl,rfl,rfl⟩⟩))
  refine(Hu B g P k x i (St.aK 2 (k,x,i)) w HG.out hP hu hx).mono ?_;rintro e w' ⟨r,hr,rfl,h1,h2⟩;exact⟨_,rfl,.inr (.inr ⟨rfl,.inr ⟨r,hr,rfl⟩⟩),h1,h2⟩
 have FU:=aa (λW (hW:ac w W)=>gX.out W _ hW (.inl rfl));generalize(⟨(St.aK 3 (k,x,i)).toArray⟩:ByteArray)=uu at *;generalize(⟨x.toArray⟩:ByteArray)=s;go_enter Tryz.func175,Tryz.ntmps175;go_wp2;go_ret;exact FU.out _ (uZ)
theorem Mu{fmt:Int}{f:List St.It}{p:St.It}(h:St.jk fmt f)(hp:p∈St.aM f):St.bw fmt [p]=(St.aK fmt p,0):=by
 have hx:=h.H7 p hp;have hg:=St.qe (fmt:=fmt) hx
 have h0:p.1=1->p.2.2=0:=λh1=>by
  rcases hx.1 with⟨c,rfl⟩|⟨t,rfl,_⟩|⟨t,i,rfl|rfl,_⟩|⟨t,i,rfl,_⟩
  ·rfl
  all_goals exact absurd h1 (by simp)
 have hs:=St.tW [p] λq hq h1=>by
  simp at hq;subst hq;exact⟨hg.2 h1,h0 h1⟩
 have hold:St.jk fmt [p]:=by
  refine⟨?_,λx Ww=>?_,List.pairwise_singleton _ _⟩
  ·show St.bl [p]=[p]
   unfold St.bl;rw[List.foldl_cons,List.foldl_nil,St.eB]
   split
   ·rename_i h1
    rw[if_neg (by intro e;have:=hg.2 h1;rw[e]at this;simp at this)];obtain⟨k,t,i⟩:=p;simp only at h0 h1;rw[h1,h0 h1]
   rfl
  obtain⟨hm,hn⟩:=List.mem_filter.1 Ww;simp at hm;subst hm;exact h.items _ (by rw[<-St.eT];exact List.mem_filter.2 ⟨hp,hn⟩)
 have:=hold.enc (by simp) (by
  simp only[St.aA,St.aZ,List.map_cons,List.map_nil,List.sum_cons,List.sum_nil]
  split
  ·rename_i h1;have:=hg.2 h1;omega
  omega)
 rw[this,hs];simp
def Gm(w:Ys)(fmt:Int)(B g P:Nat)(f:List St.It)(s7 s8:Value)(wr:Ys):Prop:=
 ∃(i:Nat) (raw:ByteArray) (ps:List (List UInt8 × St.It)),i<=St.aA f/\s8=Yh Yn i/\s7=Yi raw/\raw.1.1=St.a8 ps/\St.fE ps=(St.aM f).take i/\(∀p∈ps,St.jU fmt p.2 p.1)/\raw.size<=40*i/\bp wr B g (P+2*i)/\w.grownBy wr (Yr g)
theorem tP(fmt:Int)(NZ:fmt=1\/fmt=2\/fmt=3)(B g P:Nat)(A:Option Addr)(n c:Nat)(f:List St.It)(w:Ys)(hG:bp w B g P)(hP:P<=100000)(hn:f.length=n)(h:aH w A f)(hne:∀b off,A=Yr ⟨b,off,Yq⟩->b≠g)
  (hl:n<=10) (ht:aV f<=115) (fP:St.jk fmt f) (hok:∃q,St.fy (St.aM f) [] 0=Yr ([],q)) (Ru:∀x∈St.bY f,x.2.1.length<=24) :
  Calls Tryz.prog 133 #[Yl (Yr ⟨g,0,Yq⟩),Yh Yn fmt,Yj A n c] w λe w'=>∃raw:ByteArray,e=Yp (Yi raw)/\(∃f ps q,St.jx fmt f raw.1.1 ps q/\f.length<=10/\aV f<=115)/\raw.size<=5000/\bp w' B g (P+250)/\w.grownBy w' (Yr g):=by
 have HG:=aa hG;have H:=aa h;have HN:=aa hn;have iy:=aa hne;have pG:=aa fP;have E1:=aa Ru;have wH:=aa hok;obtain⟨ka,hB⟩:=hG.lt;have hll:St.aA f<=125:=by have:=gM f;omega
 clear hG h hn hne fP Ru hok;go_enter Tryz.func133,Tryz.ntmps133;go_wp2_with fail;go_loopw [7,8] (λs7 s8 wr=>Gm w fmt B g P f s7 s8 wr) (λ_ s8 _=>St.aA f+1-(intOf s8).toNat)
 case atStart=>exact⟨0,⟨#[]⟩,[],by omega,rfl,rfl,rfl,rfl,(λp hp=>by cases hp),by show 0<=_;omega,HG.out,bA _ _⟩
 case round=>
  clear HG;obtain⟨i,raw,ps,hi,rfl,rfl,pg,hits,hform,hrs,hG,hk⟩:=hrel;have HG:=aa hG;have HK:=aa hk;have P6:=aa pg;have HITS:=aa hits;have No:=aa hform;have hI:=Az H.out hk iy.out;have HI:=aa hI;have hlen:=aa (la A n c f wr HN.out hI (by omega) (by omega));have hsz:=hk.size;clear hG hk pg hits hform hI
  by_cases hlt:i<St.aA f
  ·have z1:(i:Int)<(St.aA f:Nat):=by omega
   have hpl:i<(St.aM f).length:=by rw[St.ga];exact hlt
   have hone:=St.Bf i f 0 (St.rk pG.out.nm) (by omega) (by simpa using hpl);have hp0:=List.getElem_mem hpl;have hp1:=pG.out.H7 _ hp0;have hp2:=Mu pG.out hp0;have JX:=λh1=>St.F3 E1.out hp0 h1
   have htk:(St.aM f).take (i+1)=(St.aM f).take i++[(St.aM f)[i]]:=by rw[List.take_add_one,List.getElem?_eq_getElem hpl];rfl
   simp only[Nat.sub_zero]at hone;have hsl:=sl A n c f i (i+1) wr HN.out HI.out (by omega) (by omega) (by omega) (by omega);rw[hone]at hsl;clear hp0;generalize(St.aM f)[i]=p at hone hp1 htk hsl hp2 JX;have hp1:St.yn fmt p:=hp1
   have hpt:p.2.1.length<=24:=by
    by_cases h1:p.1=1
    ·rw[(St.qe hp1).2 h1];omega
    exact JX h1
   have bm:=aa hsl;have hsz1:=λb (hb:St.jU fmt p b)=>(St.tA hp1 JX hb).1
   have hel:=(St.tA (fmt:=fmt) hp1 JX (.inl rfl)).2;have VV:=aa hsz1
   have Un:∀(b:List UInt8),St.jU fmt p b->(raw++(⟨b.toArray⟩:ByteArray)).1.1=St.a8 (ps++[(b,p)])/\St.fE (ps++[(b,p)])=(St.aM f).take (i+1)/\(∀q∈ps++[(b,p)],St.jU fmt q.2 q.1)/\(raw++(⟨b.toArray⟩:ByteArray)).size<=40*(i+1):=by
    intro b hb;refine⟨?_,?_,?_,?_⟩
    ·unfold St.a8;rw[List.flatMap_append];simp;rw[P6.out];rfl
    ·rw[htk,<-HITS.out];simp[St.fE]
    ·intro q hq;rcases List.mem_append.1 hq with hq|hq
     ·exact No.out q hq
     simp at hq;subst hq;exact hb
    rw[ByteArray.size_append];have:=hsz1 b hb
    have:(⟨b.toArray⟩:ByteArray).size=b.length:=by show b.toArray.size=_;simp
    omega
   have TD:=aa Un;have sM:(⟨(St.aK fmt p).toArray⟩:ByteArray).size=(St.aK fmt p).length:=by show(St.aK fmt p).toArray.size=_;simp
   clear hone hp1 htk hsl Un JX hsz1;go_wp2_with fail;refine hlen.out.mono ?_;rintro e w2 ⟨rfl,rfl⟩;go_wp2_with fail;refine bm.out.mono ?_;rintro e w2 ⟨v,rfl,ho,hu2⟩;obtain⟨A2,c2,rfl,hc2,hc3,QE⟩:=aR ho;simp only[List.length_singleton]at ho hc2 |-;obtain⟨g2,rfl,hg2a,hg2,hg2c⟩:=dU ho (by omega);have q0:=hg2c 0 _ (show(ak [p])[0]?=Yr (Yh Yn p.1)from rfl);have q1:=hg2c 1 _ (show(ak [p])[1]?=Yr (Yi ⟨p.2.1.toArray⟩)from rfl);have q2:=hg2c 2 _ (show(ak [p])[2]?=Yr (Yh Yn p.2.2)from rfl);have hit:=aW ho rfl;have henc:=EB fmt (Yr ⟨g2,0,Yq⟩) 1 c2 [p] w2 rfl hc2 (by unfold maxLen at hc3;omega) (λe=>by cases e) hit (by omega) (by simp[aV];omega);rw[hp2]at henc;have PJ:=aa henc;have fX:=aa (bK HK.out hu2);have HG2:=aa (HG.out.ai hu2);clear henc hit hg2c ho hu2 hlen bm HK HG hp2;go_wp2_with fail;refine PJ.out.mono ?_;rintro e w3 ⟨rfl,hu3⟩;have fH:=aa (bK fX.out hu3);have ix:=aa (HG2.out.ai hu3);have e0:=(hu3.cell hg2).trans q0;have e1:=(hu3.cell hg2).trans q1;have e2:=(hu3.cell hg2).trans q2;have LX:g2≠g:=by omega
   clear hu3 PJ fX HG2 q0 q1 q2;go_wp2_with fail;refine(bR B g _ 3 _ ix.out (by omega) (by omega) (by omega)).mono ?_;rintro e w4 ⟨r,rfl,hr,hG4,hk4⟩;have eL:=aa hG4;have dm:=aa (aO fH.out hk4 (λ_ e=>.inl e));have hg3:=cx _ _ e0;have d0:=(dA hk4 (p:=⟨g2,0,Yq⟩) hg3 (by simpa using LX)).trans e0;have d1:=(dA hk4 (p:=⟨g2,1,Yq⟩) hg3 (by simpa using LX)).trans e1;have d2:=(dA hk4 (p:=⟨g2,2,Yq⟩) hg3 (by simpa using LX)).trans e2;haveI:af g2 w4:=af.of (cx _ _ d0);clear hG4 hk4 ix fH e0 e1 e2
   by_cases sP:r=0
   ·subst sP;go_wp2_with fail;refine(JT fmt NZ B g _ p _ eL.out (by omega) (by omega)).mono ?_;rintro e w5 ⟨b,rfl,hb,fZ,hk5⟩;obtain⟨s1,s2,s3,s4⟩:=TD.out b hb;have hbl:=VV.out b hb;have hbz:(⟨b.toArray⟩:ByteArray).size=b.length:=by show b.toArray.size=_;simp
    have HE:=aa (And.intro s1 (And.intro s2 (And.intro s3 (And.intro fZ (aO dm.out hk5 (λ_ e=>.inl e))))));have y1:¬9223372036854775807<raw.size+b.length:=by omega
    clear s1 s2 s3 fZ hk5 hb;go_wp2;exact⟨⟨i+1,_,_,by omega,congrArg (Yh Yn) (by omega),rfl,HE.out.1,HE.out.2.1,HE.out.2.2.1,s4,HE.out.2.2.2.1.le (by omega),HE.out.2.2.2.2⟩,by simp[intOf];omega⟩
   have z2:((r:Int)==0)=false:=by simp;omega
   obtain⟨s1,s2,s3,s4⟩:=TD.out (St.aK fmt p) (.inl rfl);have HE:=aa (And.intro s1 (And.intro s2 s3));have y1:¬9223372036854775807<raw.size+(St.aK fmt p).length:=by omega
   clear s1 s2 s3 sP;go_wp2;exact⟨⟨i+1,_,_,by omega,congrArg (Yh Yn) (by omega),rfl,HE.out.1,HE.out.2.1,HE.out.2.2,s4,eL.out.le (by omega),dm.out⟩,by simp[intOf];omega⟩
  have z1:¬(i:Int)<(St.aA f:Nat):=by omega
  have hfin:∃f ps q,St.jx fmt f raw.1.1 ps q/\f.length<=10/\aV f<=115:=by
   obtain⟨q,hq⟩:=wH.out;exact⟨f,ps,q,⟨pG.out,hq,by have:=HN.out;omega,by omega,E1.out,P6.out,by rw[HITS.out,List.take_of_length_le (by rw[St.ga];omega)],No.out⟩,by have:=HN.out;omega,ht⟩
  have dq:=aa hfin;clear hfin;go_wp2_with fail;refine hlen.out.mono ?_;rintro e w2 ⟨rfl,rfl⟩;go_wp2;go_ret;exact⟨raw,rfl,dq.out,by omega,HG.out.le (by omega),HK.out⟩
theorem Ae{fmt:Int}{f:List St.It}(h:uw f):St.jk fmt f/\(∃q,St.fy (St.aM f) [] 0=Yr ([],q))/\∀x∈St.bY f,x.2.1.length<=24:=by
 have hx:∀x∈St.bY f,x.2.2=0/\x.1=5/\St.aE x.2.1=true:=λx hx=>by
  obtain⟨hm,hn⟩:=List.mem_filter.1 hx;obtain⟨h0,h1|h1⟩:=h.2 x hm
  ·simp[h1]at hn
  exact⟨h0,h1⟩
 have ht:St.mC f=[]:=by
  rw[<-St.jh];unfold St.mC;rw[List.filter_eq_nil_iff];intro x hm;rw[(hx x hm).2.1];decide
 refine⟨⟨h.1,λx hm=>.inl ⟨(hx x hm).2.1,(hx x hm).2.2,(hx x hm).1⟩,?_⟩,⟨0,?_⟩,λx hm=>(St.r5 (hx x hm).2.2).1⟩
 ·rw[St.ko,ht];exact List.Pairwise.nil
 rw[St.pv _ _ _ (St.zg λx hm _=>(hx x hm).1),show(St.aM f).filter (λx=>St.aQ x.1)=St.mC (St.aM f)from rfl,St.D8,ht];rfl
theorem LL{ns:Bool}{f op:List St.It}{c:Nat}(h:St.eP ns f op c):∀x∈f,x.1≠1->x.2.1.length<=24:=by
 have add:∀ {f:List St.It} {x:St.It},(∀y∈f,y.1≠1->y.2.1.length<=24)->(x.1≠1->x.2.1.length<=24)->∀y∈St.aL f x,y.1≠1->y.2.1.length<=24:=by
  intro f x hf hx y hy h1;rcases St.gk hy with hy|rfl|⟨hy,_⟩
  ·exact hf y hy h1
  ·exact hx h1
  exact absurd hy h1
 have t4:∀t∈St.F8,t.length<=24:=by decide
 have t2:∀t∈St.Bl,t.length<=24:=by decide
 induction h with
 | nil=>intro x hx;cases hx
 | text t h ih=>exact add ih (λe=>absurd rfl e)
 | slot t ht h ih=>exact add ih (λ_=>(St.r5 ht).1)
 | empty t ht h ih=>exact add ih (λ_=>t4 t ht)
 | opened t ht h ih=>exact add ih (λ_=>t2 t ht)
 | closed k hk hl h ih=>exact add ih (λ_=>by
   have h1:=(h.small _ (List.getElem_mem hk)).1
   show(St.nameOf _).length<=24
   exact Nat.le_trans (St.vM _) (by omega))
 | stray hn h ih=>exact add ih (λ_=>by show 1<=24;omega)
theorem Jx{f:List St.It}{c:Nat}(h:St.eP true f [] c)(hc:c<=999):St.jk 1 f/\(∃q,St.fy (St.aM f) [] 0=Yr ([],q))/\∀x∈St.bY f,x.2.1.length<=24:=by
 have hg:=St.Jw h hc;refine⟨⟨hg.nm,λx hx=>?_,hg.bE⟩,hg.ok,λx hx=>?_⟩
 ·obtain⟨hm,hn⟩:=List.mem_filter.1 hx;rcases hg.items x hm with⟨g,_⟩|g|g|g
  ·simp[g]at hn
  ·exact .inl g
  ·exact .inr ⟨rfl,.inl g⟩
  exact .inr ⟨rfl,.inr g⟩
 obtain⟨hm,hn⟩:=List.mem_filter.1 hx;exact LL h x hm (by simpa using hn)
end
section
def BB(fmt:Int)(n:Nat)(data:ByteArray):Prop:=∃p us,data.1.1=p++St.bW us/\St.ux fmt p us/\us.length<=n/\∀u∈us,∃f qs c,St.jx fmt f u.r qs c/\f.length<=10/\aV f<=115
theorem MX(r:Nat):(⟨(St.oq r).toArray⟩:ByteArray).size<=3:=by unfold St.oq;split;decide;split<;>decide
def Sv(w:Ys)(B g P m h:Nat)(s7 s9:Value)(wr:Ys):Prop:=
 ∃(i:Nat) (data:ByteArray) (us:List St.Wu),s7=Yi data/\s9=Yh Yn i/\us.length+i=m/\data.1.1=St.jV h++St.bW us/\((∀u∈us,∃f qs c,St.jx 2 f u.r qs c/\f.length<=10/\aV f<=115)/\∀j u,us[j]?=Yr u->St.E5 m j u)/\data.size<=4+5010*us.length/\bp wr B g (P+2+300*us.length)/\w.grownBy wr (Yr g)
theorem G5(B g P n:Nat)(w:Ys)(hG:bp w B g P)(hP:P<=10000)(hn:n<=9) :
  Calls Tryz.prog 100 #[Yl (Yr ⟨g,0,Yq⟩),Yh Yn 2,Yh Yn n] w λe w'=>∃data:ByteArray,e=Yp (Yi data)/\BB 2 n data/\data.size<=12+5010*n/\bp w' B g (P+2+300*n)/\w.grownBy w' (Yr g):=by
 have HG:=aa hG;obtain⟨ka,hB⟩:=hG.lt;clear hG;go_enter Tryz.func100,Tryz.ntmps100;go_wp2_with fail;refine(bR B g P 3 _ (HG.out.ai ((ac.refl _).alloc (.cells #[Yi ⟨#[]⟩,Yi ⟨#[35,32,99,10]⟩,Yi ⟨#[10,32,10]⟩] 9))) (by omega) (by omega) (by omega)).mono ?_;rintro e w2 ⟨r,rfl,hr,hG2,hk2⟩
 obtain⟨hb,hhb,hhs⟩:∃hb:ByteArray,(#[Yi ⟨#[]⟩,Yi ⟨#[35,32,99,10]⟩,Yi ⟨#[10,32,10]⟩]:Array Value)[r]?=Yr (Yi hb)/\hb.1.1=St.jV r:=by
  rcases(show r=0\/r=1\/r=2 by omega)with h|h|h<;>subst h<;>exact⟨_,rfl,rfl⟩
 have T0:hb.size<=4:=by
  rw[<-St.aC,hhs];unfold St.jV;split;decide;split<;>decide
 have hcell:=gN w w2 _ _ B g hk2 ka hB r _ hhb;have HG2:=aa hG2;have fX:=aa (aO (((ac.refl w).alloc _).gb (Yr g)) hk2 (λ_ e=>.inl e));have kS:=fX.out.size;haveI:af w.1.size w2:=af.of (cx _ _ hcell);have hr3:r<3:=by omega
 obtain⟨h,hh⟩:∃h,h=r:=⟨_,rfl⟩;clear hG2 hk2 HG hhb;go_wp2_with fail;refine(bR B g _ ((n:Int)+1) _ HG2.out (by omega) (by omega) (by omega)).mono ?_;rintro e w3 ⟨m,rfl,hm,hG3,hk3⟩;have ix:=aa hG3;have fH:=aa (aO fX.out hk3 (λ_ e=>.inl e));clear hG3 hk3 HG2 fX hcell;rw[<-hh]at hhs hr3;clear hh hr;go_wp2_with fail;go_loopw [7,9] (λs7 s9 wr=>Sv w B g P m h s7 s9 wr) (λ_ s9 _=>(intOf s9).toNat)
 case atStart=>exact⟨m,hb,[],rfl,rfl,by simp,by simp[hhs,St.bW],⟨(λx hx=>by cases hx),(λj u h=>by simp at h)⟩,by simp;omega,ix.out.le (by simp),fH.out⟩
 case round=>
  clear ix fH;obtain⟨i,data,us,rfl,rfl,hki,hdt,hrs,hds,hG,hk⟩:=hrel;have HG:=aa hG;have HK:=aa hk;have zr:=aa hdt;have mH:=aa hrs;have Hh:=hk.size;clear hG hk hdt hrs
  by_cases hi:0<i
  ·have z:(0:Int)<(i:Int):=by omega
   go_wp2_with fail;refine(CI B g _ 5 _ HG.out (by omega) (by omega)).mono ?_;rintro e w4 ⟨v,f,rfl,ho,hgd,hfl,hft,hG4,hk4⟩;obtain⟨A4,c4,rfl,h41,h42,_⟩:=aR ho;have eL:=aa hG4;have dm:=aa (aO HK.out hk4 (λ_ e=>.inl e));have hit:=aW ho rfl;have hbl:=λb off (e:A4=Yr ⟨b,off,Yq⟩)=>aB ho b (by subst e;rfl)
   have HIT:=aa hit;have pG:=aa hgd;clear hG4 hk4 ho hit hgd HG HK;go_wp2_with fail;obtain⟨tL,hgd2,hgd3⟩:=Ae (fmt:=2) pG.out;refine(tP 2 (.inr (.inl rfl)) B g _ A4 f.length c4 f _ eL.out (by omega) rfl HIT.out (λb off e=>by have:=hbl b off e;omega) (by omega) (by omega) tL hgd2 hgd3).mono ?_;rintro e w5 ⟨raw,rfl,hR,Fz,fZ,hk5⟩;have dh:=aa (aO dm.out hk5 (λ_ e=>.inl e));have kU:=aa hR;obtain⟨Q,hQ,fZ⟩:∃Q,Q+1<=P+2+300*(us.length+1)/\bp w5 B g Q:=⟨_,by omega,fZ⟩;have We:Q<=1000000:=by omega
   have jO:=aa fZ;obtain⟨dg,hdg⟩:∃dg:ByteArray,(⟨(Lib.decDigits i).toArray⟩:ByteArray)=dg:=⟨_,rfl⟩;have XH:dg.size=1:=by rw[<-hdg];exact Je (by omega)
   clear fZ hk5 eL dm hR HIT pG hbl tL hgd2 hgd3;go_wp2_with fail;refine(ql i w5 (by omega)).mono ?_;rintro e w6 ⟨rfl,dD⟩;rw[hdg];have qI:=aa (jO.out.ai dD);have eu:=aa (bK dh.out dD);clear dD jO dh;go_wp2_with fail;refine(bR B g Q 3 _ (qI.out.ai ((ac.refl _).alloc (.cells #[Yi ⟨#[]⟩,Yi ⟨#[35,120,10]⟩,Yi ⟨#[10]⟩] 9))) (by omega) (by omega) (by omega)).mono ?_;rintro e w7 ⟨r,rfl,hr,hG7,hk7⟩
   obtain⟨tb,fx,hts⟩:∃tb:ByteArray,(#[Yi ⟨#[]⟩,Yi ⟨#[35,120,10]⟩,Yi ⟨#[10]⟩]:Array Value)[r]?=Yr (Yi tb)/\tb=⟨(St.oq r).toArray⟩:=by
    rcases(show r=0\/r=1\/r=2 by omega)with h|h|h<;>subst h<;>exact⟨_,rfl,rfl⟩
   have QH:=qI.out.lt;have hcell:=gN w6 w7 _ _ B g hk7 QH.1 QH.2 r _ fx;have wD:=aa hG7;have lE:=aa (aO (bK eu.out ((ac.refl _).alloc _)) hk7 (λ_ e=>.inl e));have L6:=hk7.size;haveI:af w6.1.size w7:=af.of (cx _ _ hcell);have xC:tb.size<=3:=by rw[hts];exact MX r
   have Va:r<3:=by omega
   have pK:=aa hts;have Vy:=aa hdg;clear hG7 hk7 qI eu fx hts hdg;go_wp2;obtain⟨u,hu⟩:∃u:St.Wu,u=⟨St.iT i++[61],St.iT i,raw.1.1,10 :: St.oq r⟩:=⟨_,rfl⟩;refine⟨⟨i-1,_,us++[u],rfl,congrArg (Yh Yn) (by omega),by simp;omega,?_,⟨?_,St.we mH.out.2 ⟨r,Va,?_⟩⟩,?_,wD.out.le (by rw[List.length_append,List.length_singleton];omega),lE.out⟩,by simp[intOf];omega⟩
   ·rw[St.qu,<-List.append_assoc,<-zr.out,hu,pK.out,<-Vy.out];simp[St.iT]
   ·intro v hv;rcases List.mem_append.1 hv with hv|hv
    ·exact mH.out.1 v hv
    simp at hv;subst hv;subst hu;exact kU.out
   ·subst hu;rw[show m-us.length=i by omega];exact⟨rfl,rfl,rfl⟩
   rw[List.length_append,List.length_singleton];simp only[ByteArray.size_append]
   show _+(1+_+1+_+1+_)<=_
   omega
  have z:¬(0:Int)<(i:Int):=by omega
  have hlen:us.length=m:=by omega
  go_wp2;go_ret;exact⟨data,rfl,⟨St.jV h,us,zr.out,.inr (.inl ⟨rfl,⟨h,hr3,rfl⟩,by omega,by rw[hlen];exact mH.out.2⟩),by omega,mH.out.1⟩,by omega,HG.out.le (by omega),HK.out⟩
end
section
def eF(au:Nat):ByteArray:=⟨(St.ju au).toArray⟩
def ie(au:Nat):ByteArray:=⟨(St.iG au).toArray⟩
theorem nd(au:Nat):(eF au).size<=2:=by unfold eF St.ju;split;decide;split<;>decide
theorem ly(au:Nat):(ie au).size<=4:=by unfold ie St.iG;split;decide;split<;>decide
def Sw(w:Ys)(B g P n au:Nat)(s7 s9:Value)(wr:Ys):Prop:=
 ∃(i k:Nat) (data:ByteArray) (us:List St.Wu),s7=Yi data/\s9=Yh Yn i/\k+i<=n/\data.1.1=St.mg au++St.bW us/\us.length=k/\((∀u∈us,∃f qs c,St.jx 3 f u.r qs c/\f.length<=10/\aV f<=115)/\∀j u,us[j]?=Yr u->St.E6 Lib.decDigits au j u)/\data.size<=12+5010*k/\bp wr B g (P+2+300*k)/\w.grownBy wr (Yr g)
def QQ(data raw:ByteArray)(au:Nat):List ea:=[
 λv _=>v=Yi data,
 λv W=>∃b,v=Yj (Yr ⟨b,0,Yq⟩) 3 3/\b<W.1.size/\∀r,r<3->W.cell? ⟨b,r,Yq⟩=Yr (Yi (Vl r)),
 λv _=>v=Yh Yn au,
 λv W=>∃b,v=Yl (Yr ⟨b,au,Yq⟩)/\b<W.1.size/\W.cell? ⟨b,au,Yq⟩=Yr (Yi (eF au)),
 λv _=>v=Yi (eF au),
 λv _=>v=Yi ((⟨#[10]⟩:ByteArray)++eF au),
 λv _=>v=Yi ((⟨#[10]⟩:ByteArray)++eF au++(⟨#[34]⟩:ByteArray)),
 λv _=>v=Yi raw,
 λv _=>v=Yi ((⟨#[10]⟩:ByteArray)++eF au++(⟨#[34]⟩:ByteArray)++raw),
 λv _=>v=Yi ((⟨#[10]⟩:ByteArray)++eF au++(⟨#[34]⟩:ByteArray)++raw++(⟨#[34]⟩:ByteArray)),
 λv W=>∃b,v=Yj (Yr ⟨b,0,Yq⟩) 3 3/\b<W.1.size/\∀r,r<3->W.cell? ⟨b,r,Yq⟩=Yr (Yi (S5 r)),
 λv _=>v=Yh Yn au,
 λv W=>∃b,v=Yl (Yr ⟨b,au,Yq⟩)/\b<W.1.size/\W.cell? ⟨b,au,Yq⟩=Yr (Yi (ie au)),
 λv _=>v=Yi (ie au),
 λv _=>v=Yi ((⟨#[10]⟩:ByteArray)++eF au++(⟨#[34]⟩:ByteArray)++raw++(⟨#[34]⟩:ByteArray)++ie au),
 λv _=>v=Yi (data++((⟨#[10]⟩:ByteArray)++eF au++(⟨#[34]⟩:ByteArray)++raw++(⟨#[34]⟩:ByteArray)++ie au)),
 λv _=>v=Yi (data++((⟨#[10]⟩:ByteArray)++eF au++(⟨#[34]⟩:ByteArray)++raw++(⟨#[34]⟩:ByteArray)++ie au))]
theorem G6(B g P n:Nat)(w:Ys)(hG:bp w B g P)(hP:P<=10000)(hn:n<=10) :
  Calls Tryz.prog 100 #[Yl (Yr ⟨g,0,Yq⟩),Yh Yn 3,Yh Yn n] w λe w'=>∃data:ByteArray,e=Yp (Yi data)/\BB 3 n data/\data.size<=12+5010*n/\bp w' B g (P+2+300*n)/\w.grownBy w' (Yr g):=by
 have HG:=aa hG;obtain⟨ka,hB⟩:=hG.lt;clear hG;go_enter Tryz.func100,Tryz.ntmps100;go_wp2_with fail;refine(bR B g P 3 _ (HG.out.ai ((ac.refl _).alloc (.cells #[Yi ⟨#[116,101,120,116]⟩,Yi ⟨#[105,100,44,116,101,120,116]⟩,Yi ⟨#[34,97,44,98,34,44,116,101,120,116,44,99]⟩] 9))) (by omega) (by omega) (by omega)).mono ?_;rintro e w2 ⟨r,rfl,hr,hG2,hk2⟩
 obtain⟨hb,hhb,hhs,hhq⟩:∃hb:ByteArray,(#[Yi ⟨#[116,101,120,116]⟩,Yi ⟨#[105,100,44,116,101,120,116]⟩,Yi ⟨#[34,97,44,98,34,44,116,101,120,116,44,99]⟩]:Array Value)[r]?=Yr (Yi hb)/\hb.1.1=St.mg r/\((hb.size:Int) / 6=r):=by
  rcases(show r=0\/r=1\/r=2 by omega)with h|h|h<;>subst h<;>exact⟨_,rfl,rfl,rfl⟩
 have T0:hb.size<=12:=by
  rw[<-St.aC,hhs];unfold St.mg;split;decide;split<;>decide
 have hcell:=gN w w2 _ _ B g hk2 ka hB r _ hhb;have HG2:=aa hG2;have fX:=aa (aO (((ac.refl w).alloc _).gb (Yr g)) hk2 (λ_ e=>.inl e));have kS:=fX.out.size;haveI:af w.1.size w2:=af.of (cx _ _ hcell);have hr3:r<3:=by omega
 obtain⟨au,hcol⟩:∃au,au=r:=⟨_,rfl⟩;clear hG2 hk2 HG hhb;go_wp2_with fail;refine(bR B g _ ((n:Int)+1) _ HG2.out (by omega) (by omega) (by omega)).mono ?_;rintro e w3 ⟨m,rfl,hm,hG3,hk3⟩;have ix:=aa hG3;have fH:=aa (aO fX.out hk3 (λ_ e=>.inl e));clear hG3 hk3 HG2 fX hcell;rw[<-hcol]at hhs hr3 |-;clear hcol hr;go_wp2_with fail;go_loopw [7,9] (λs7 s9 wr=>Sw w B g P n au s7 s9 wr) (λ_ s9 _=>(intOf s9).toNat)
 case atStart=>exact⟨m,0,hb,[],rfl,rfl,by omega,by simp[hhs,St.bW],rfl,⟨(λx hx=>by cases hx),(λj u h=>by simp at h)⟩,by omega,ix.out.le (by omega),fH.out⟩
 case round=>
  clear ix fH;obtain⟨i,k,data,us,rfl,rfl,hki,hdt,hrl,hrs,hds,hG,hk⟩:=hrel;have HG:=aa hG;have HK:=aa hk;have zr:=aa hdt;have EZ:=aa hrl;have mH:=aa hrs;have Hh:=hk.size;clear hG hk hdt hrl hrs
  by_cases hi:0<i
  ·have z:(0:Int)<(i:Int):=by omega
   go_wp2_with fail;refine(CI B g _ 5 _ HG.out (by omega) (by omega)).mono ?_;rintro e w4 ⟨v,f,rfl,ho,hgd,hfl,hft,hG4,hk4⟩;obtain⟨A4,c4,rfl,h41,h42,_⟩:=aR ho;have eL:=aa hG4;have dm:=aa (aO HK.out hk4 (λ_ e=>.inl e));have hit:=aW ho rfl;have hbl:=λb off (e:A4=Yr ⟨b,off,Yq⟩)=>aB ho b (by subst e;rfl)
   have HIT:=aa hit;have pG:=aa hgd;clear hG4 hk4 ho hit hgd HG HK;go_wp2_with fail;obtain⟨tL,hgd2,hgd3⟩:=Ae (fmt:=3) pG.out;refine(tP 3 (.inr (.inr rfl)) B g _ A4 f.length c4 f _ eL.out (by omega) rfl HIT.out (λb off e=>by have:=hbl b off e;omega) (by omega) (by omega) tL hgd2 hgd3).mono ?_;rintro e w5 ⟨raw,rfl,hR,Fz,fZ,hk5⟩;have fZ:=fZ.le (show _<=P+2+300*(k+1)by omega);have jO:=aa fZ;have dh:=aa (aO dm.out hk5 (λ_ e=>.inl e));have kU:=aa hR;clear fZ hk5 eL dm hR HIT pG hbl tL hgd2 hgd3;go_wp2_with fail;refine bU (λa b=>ac a b) (λ_ _=>True) (QQ data raw au) ac.refl (λa b c h k=>ac.trans h k) (by kernel_rfl) (by rfl) (by kernel_rfl) (by kernel_rfl) ?frD ?hfr ?hI ?hob ?hend
   case hfr=>
    intro ρ;simp only[bZ,Act.put,ax,aw,ay,Nat.zero_add,Nat.reduceAdd];exact rfl
   case hI=>trivial
   case hob=>
    unfold QQ;refine aq.cons (λρ L W hR hI hL hD hO hF K hK=>?_) ?_
    ·have eo:ρ 16=Yi data:=hO 16 _ 7 rfl rfl (hD.not (p:=16) rfl (by decide) hL);clear hF hD hO hI hL hR;simp only[Act.put,ax,aw,ay]at hK |-;rw[eo]at hK |-;go_simp;refine hK _ _ (ac.refl _) trivial (λW2 h2=>?_);rfl
    refine aq.cons (λρ L W hR hI hL hD hO hF K hK=>?_) ?_
    ·clear hF hD hO hI hL hR;simp only[Act.put,ax,aw,ay]at hK |-;go_simp;refine hK _ _ ((ac.refl W).alloc _) trivial (λW2 h2=>⟨W.1.size,rfl,by have:=h2.size;simp at this;omega,λr hr=>?_⟩);rw[h2.cell (p:=⟨W.1.size,r,Yq⟩) (by simp),World.cell?_alloc_at _ _ _ _ rfl];rcases(show r=0\/r=1\/r=2 by omega)with h|h|h<;>subst h<;>rfl
    refine aq.cons (λρ L W hR hI hL hD hO hF K hK=>?_) ?_
    ·clear hF hD hO hI hL hR;simp only[Act.put,ax,aw,ay]at hK |-;go_simp;refine hK _ _ (ac.refl _) trivial (λW2 h2=>?_);rfl
    refine aq.cons (λρ L W hR hI hL hD hO hF K hK=>?_) ?_
    ·have f1:=ag hF (j:=1) (by decide);have f2:=ag hF (j:=2) (by decide);clear hF hD hO hI hL hR;simp only[Act.put,ax,aw,ay]at hK |-;obtain⟨b,e0,hb2,hc⟩:=f1;have e2:ρ 2=Yh Yn au:=f2;rw[e0,e2]at hK |-;have bP:au<3:=by omega
     have z1:((au:Nat):Int)<3:=by omega
     haveI:af b W:=af.of hb2;go_simp;refine hK _ _ (ac.refl _) trivial (λW2 h2=>?_);exact⟨b,rfl,Nat.lt_of_lt_of_le hb2 h2.size,(h2.cell hb2).trans (hc _ bP)⟩
    refine aq.cons (λρ L W hR hI hL hD hO hF K hK=>?_) ?_
    ·have f3:=ag hF (j:=3) (by decide);clear hF hD hO hI hL hR;simp only[Act.put,ax,aw,ay]at hK |-;obtain⟨b,e3,hb2,hc⟩:=f3;rw[e3]at hK |-;go_simp;refine hK _ _ (ac.refl _) trivial (λW2 h2=>?_);rfl
    refine aq.cons (λρ L W hR hI hL hD hO hF K hK=>?_) ?_
    ·have f4:=ag hF (j:=4) (by decide);clear hF hD hO hI hL hR;simp only[Act.put,ax,aw,ay]at hK |-;have e4:ρ 4=Yi (eF au):=f4;rw[e4]at hK |-;have h1:=nd au;have h2:=ly au;have y1:¬9223372036854775807<1+(eF au).size:=by omega
     go_simp;refine hK _ _ (ac.refl _) trivial (λW2 h2=>?_);rfl
    refine aq.cons (λρ L W hR hI hL hD hO hF K hK=>?_) ?_
    ·have f5:=ag hF (j:=5) (by decide);clear hF hD hO hI hL hR;simp only[Act.put,ax,aw,ay]at hK |-;have e5:ρ 5=Yi ((⟨#[10]⟩:ByteArray)++eF au):=f5;rw[e5]at hK |-;have h1:=nd au;have h2:=ly au;have y1:¬9223372036854775807<1+(eF au).size+1:=by omega
     go_simp;refine hK _ _ (ac.refl _) trivial (λW2 h2=>?_);rfl
    refine aq.cons (λρ L W hR hI hL hD hO hF K hK=>?_) ?_
    ·clear hF hD hO hI hL hR;simp only[Act.put,ax,aw,ay]at hK |-;go_simp;refine hK _ _ (ac.refl _) trivial (λW2 h2=>?_);rfl
    refine aq.cons (λρ L W hR hI hL hD hO hF K hK=>?_) ?_
    ·have f6:=ag hF (j:=6) (by decide);have f7:=ag hF (j:=7) (by decide);clear hF hD hO hI hL hR;simp only[Act.put,ax,aw,ay]at hK |-;have e6:ρ 6=Yi ((⟨#[10]⟩:ByteArray)++eF au++(⟨#[34]⟩:ByteArray)):=f6;have e7:ρ 7=Yi raw:=f7;rw[e6,e7]at hK |-;have h1:=nd au;have h2:=ly au;have y1:¬9223372036854775807<1+(eF au).size+1+raw.size:=by omega
     go_simp;refine hK _ _ (ac.refl _) trivial (λW2 h2=>?_);rfl
    refine aq.cons (λρ L W hR hI hL hD hO hF K hK=>?_) ?_
    ·have f8:=ag hF (j:=8) (by decide);clear hF hD hO hI hL hR;simp only[Act.put,ax,aw,ay]at hK |-;have e8:ρ 8=Yi ((⟨#[10]⟩:ByteArray)++eF au++(⟨#[34]⟩:ByteArray)++raw):=f8;rw[e8]at hK |-;have h1:=nd au;have h2:=ly au;have y1:¬9223372036854775807<1+(eF au).size+1+raw.size+1:=by omega
     go_simp;refine hK _ _ (ac.refl _) trivial (λW2 h2=>?_);rfl
    refine aq.cons (λρ L W hR hI hL hD hO hF K hK=>?_) ?_
    ·clear hF hD hO hI hL hR;simp only[Act.put,ax,aw,ay]at hK |-;go_simp;refine hK _ _ ((ac.refl W).alloc _) trivial (λW2 h2=>⟨W.1.size,rfl,by have:=h2.size;simp at this;omega,λr hr=>?_⟩);rw[h2.cell (p:=⟨W.1.size,r,Yq⟩) (by simp),World.cell?_alloc_at _ _ _ _ rfl];rcases(show r=0\/r=1\/r=2 by omega)with h|h|h<;>subst h<;>rfl
    refine aq.cons (λρ L W hR hI hL hD hO hF K hK=>?_) ?_
    ·clear hF hD hO hI hL hR;simp only[Act.put,ax,aw,ay]at hK |-;go_simp;refine hK _ _ (ac.refl _) trivial (λW2 h2=>?_);rfl
    refine aq.cons (λρ L W hR hI hL hD hO hF K hK=>?_) ?_
    ·have f10:=ag hF (j:=10) (by decide);have f11:=ag hF (j:=11) (by decide);clear hF hD hO hI hL hR;simp only[Act.put,ax,aw,ay]at hK |-;obtain⟨b,e0,hb2,hc⟩:=f10;have e2:ρ 11=Yh Yn au:=f11;rw[e0,e2]at hK |-;have bP:au<3:=by omega
     have z1:((au:Nat):Int)<3:=by omega
     haveI:af b W:=af.of hb2;go_simp;refine hK _ _ (ac.refl _) trivial (λW2 h2=>?_);exact⟨b,rfl,Nat.lt_of_lt_of_le hb2 h2.size,(h2.cell hb2).trans (hc _ bP)⟩
    refine aq.cons (λρ L W hR hI hL hD hO hF K hK=>?_) ?_
    ·have f12:=ag hF (j:=12) (by decide);clear hF hD hO hI hL hR;simp only[Act.put,ax,aw,ay]at hK |-;obtain⟨b,e3,hb2,hc⟩:=f12;rw[e3]at hK |-;go_simp;refine hK _ _ (ac.refl _) trivial (λW2 h2=>?_);rfl
    refine aq.cons (λρ L W hR hI hL hD hO hF K hK=>?_) ?_
    ·have f9:=ag hF (j:=9) (by decide);have f13:=ag hF (j:=13) (by decide);clear hF hD hO hI hL hR;simp only[Act.put,ax,aw,ay]at hK |-;have e9:ρ 9=Yi ((⟨#[10]⟩:ByteArray)++eF au++(⟨#[34]⟩:ByteArray)++raw++(⟨#[34]⟩:ByteArray)):=f9;have Ji:ρ 13=Yi (ie au):=f13;rw[e9,Ji]at hK |-;have h1:=nd au;have h2:=ly au;have y1:¬9223372036854775807<1+(eF au).size+1+raw.size+1+(ie au).size:=by omega
     go_simp;refine hK _ _ (ac.refl _) trivial (λW2 h2=>?_);rfl
    refine aq.cons (λρ L W hR hI hL hD hO hF K hK=>?_) ?_
    ·have f0:=ag hF (j:=0) (by decide);have f14:=ag hF (j:=14) (by decide);clear hF hD hO hI hL hR;simp only[Act.put,ax,aw,ay]at hK |-;have e0:ρ 0=Yi data:=f0;have Cx:ρ 14=Yi ((⟨#[10]⟩:ByteArray)++eF au++(⟨#[34]⟩:ByteArray)++raw++(⟨#[34]⟩:ByteArray)++ie au):=f14;rw[e0,Cx]at hK |-;have h1:=nd au;have h2:=ly au;have y1:¬9223372036854775807<data.size+(1+(eF au).size+1+raw.size+1+(ie au).size):=by omega
     go_simp;refine hK _ _ (ac.refl _) trivial (λW2 h2=>?_);rfl
    refine aq.cons (λρ L W hR hI hL hD hO hF K hK=>?_) ?_
    ·have f15:=ag hF (j:=15) (by decide);clear hF hD hO hI hL hR;simp only[Act.put,ax,aw,ay]at hK |-;have Jj:ρ 15=Yi (data++((⟨#[10]⟩:ByteArray)++eF au++(⟨#[34]⟩:ByteArray)++raw++(⟨#[34]⟩:ByteArray)++ie au)):=f15;rw[Jj]at hK |-;go_simp;refine hK _ _ (ac.refl _) trivial (λW2 h2=>?_);rfl
    exact aq.nil
   case hend=>
    intro ρ L W hR hI hL hF;obtain⟨_,_,_,_,_,_,_,_,_,_,_,_,_,_,_,_,  e16,_⟩:=hF;have e16:ρ 16=Yi (data++((⟨#[10]⟩:ByteArray)++eF au++(⟨#[34]⟩:ByteArray)++raw++(⟨#[34]⟩:ByteArray)++ie au)):=e16;clear hI hL;rw[e16];have dD:=aa (bK dh.out ((ac.refl _).drew.trans hR));have NR:=aa (jO.out.ai ((ac.refl _).drew.trans hR));clear hR e16;go_wp2;obtain⟨u,hu⟩:∃u:St.Wu,u=⟨[10]++St.ju au++[34],Lib.decDigits (us.length+1),raw.1.1,34 :: St.iG au⟩:=⟨_,rfl⟩;refine⟨⟨i-1,k+1,_,us++[u],rfl,congrArg (Yh Yn) (by omega),by omega,?_,?_,⟨?_,St.we mH.out.2 (by subst hu;exact⟨rfl,rfl,rfl⟩)⟩,?_,NR.out.le (by omega),dD.out⟩,by simp[intOf];omega⟩
    ·rw[St.qu,<-List.append_assoc,<-zr.out,hu];simp[eF,ie]
    ·simp[EZ.out]
    ·intro v hv;rcases List.mem_append.1 hv with hv|hv
     ·exact mH.out.1 v hv
     simp at hv;subst hv;subst hu;exact kU.out
    have h1:=nd au;have h2:=ly au;simp only[ByteArray.size_append]
    show _+(1+_+1+_+1+_)<=_
    omega
  have z:¬(0:Int)<(i:Int):=by omega
  go_wp2;go_ret;exact⟨data,rfl,⟨St.mg au,us,zr.out,.inr (.inr ⟨rfl,au,hr3,rfl,mH.out.2⟩),by rw[EZ.out];omega,mH.out.1⟩,by omega,HG.out.le (by omega),HK.out⟩
end
section
def fs(q:Nat):ByteArray:=⟨(St.od q).toArray⟩
theorem jl(q:Nat):(fs q).size<=6:=by unfold fs St.od;split<;>decide
def kz(r:Nat):ByteArray:=⟨(St.lg r).toArray⟩
theorem uj(r:Nat):(kz r).size<=5:=by unfold kz St.lg;split;decide;split<;>decide
def Su(w:Ys)(B g P m h:Nat)(s7 s9:Value)(wr:Ys):Prop:=
 ∃(i:Nat) (data:ByteArray) (us:List St.Wu),s7=Yi data/\s9=Yh Yn i/\us.length+i=m/\data.1.1=St.jp h++St.bW us/\((∀u∈us,∃f qs c,St.jx 1 f u.r qs c/\f.length<=10/\aV f<=115)/\∀j u,us[j]?=Yr u->St.NG Lib.decDigits j u)/\data.size<=13+5040*us.length/\bp wr B g (P+2+400*us.length)/\w.grownBy wr (Yr g)
theorem G4(B g P n:Nat)(w:Ys)(hG:bp w B g P)(hP:P<=10000)(hn:n<=9) :
  Calls Tryz.prog 100 #[Yl (Yr ⟨g,0,Yq⟩),Yh Yn 1,Yh Yn n] w λe w'=>∃data:ByteArray,e=Yp (Yi data)/\BB 1 n data/\data.size<=13+5040*n/\bp w' B g (P+2+400*n)/\w.grownBy w' (Yr g):=by
 have HG:=aa hG;obtain⟨ka,hB⟩:=hG.lt;clear hG;go_enter Tryz.func100,Tryz.ntmps100;go_wp2_with fail;refine(bR B g P 3 _ (HG.out.ai ((ac.refl _).alloc (.cells #[Yi ⟨#[]⟩,Yi ⟨#[60,104,116,109,108,62]⟩,Yi ⟨#[60,33,45,45,32,60,112,62,32,45,45,62,120]⟩] 9))) (by omega) (by omega) (by omega)).mono ?_;rintro e w2 ⟨r,rfl,hr,hG2,hk2⟩
 obtain⟨hb,hhb,hhs⟩:∃hb:ByteArray,(#[Yi ⟨#[]⟩,Yi ⟨#[60,104,116,109,108,62]⟩,Yi ⟨#[60,33,45,45,32,60,112,62,32,45,45,62,120]⟩]:Array Value)[r]?=Yr (Yi hb)/\hb.1.1=St.jp r:=by
  rcases(show r=0\/r=1\/r=2 by omega)with h|h|h<;>subst h<;>exact⟨_,rfl,rfl⟩
 have T0:hb.size<=13:=by
  rw[<-St.aC,hhs];unfold St.jp;split;decide;split<;>decide
 have hcell:=gN w w2 _ _ B g hk2 ka hB r _ hhb;have HG2:=aa hG2;have fX:=aa (aO (((ac.refl w).alloc _).gb (Yr g)) hk2 (λ_ e=>.inl e));have kS:=fX.out.size;haveI:af w.1.size w2:=af.of (cx _ _ hcell);have hr3:r<3:=by omega
 obtain⟨h,hh⟩:∃h,h=r:=⟨_,rfl⟩;clear hG2 hk2 HG hhb;go_wp2_with fail;refine(bR B g _ ((n:Int)+1) _ HG2.out (by omega) (by omega) (by omega)).mono ?_;rintro e w3 ⟨m,rfl,hm,hG3,hk3⟩;have ix:=aa hG3;have fH:=aa (aO fX.out hk3 (λ_ e=>.inl e));clear hG3 hk3 HG2 fX hcell;rw[<-hh]at hhs hr3;clear hh hr;go_wp2_with fail;go_loopw [7,9] (λs7 s9 wr=>Su w B g P m h s7 s9 wr) (λ_ s9 _=>(intOf s9).toNat)
 case atStart=>exact⟨m,hb,[],rfl,rfl,by simp,by simp[hhs,St.bW],⟨(λx hx=>by cases hx),(λj u h=>by simp at h)⟩,by simp;omega,ix.out.le (by simp),fH.out⟩
 case round=>
  clear ix fH;obtain⟨i,data,us,rfl,rfl,hki,hdt,hrs,hds,hG,hk⟩:=hrel;have HG:=aa hG;have HK:=aa hk;have zr:=aa hdt;have mH:=aa hrs;have Hh:=hk.size;clear hG hk hdt hrs
  by_cases hi:0<i
  ·have z:(0:Int)<(i:Int):=by omega
   go_wp2_with fail;refine(Jt B g _ 5 _ HG.out (by omega) (by omega)).mono ?_;rintro e w4 ⟨v,f,cc,rfl,ho,hgt,hfl,hft,hcn,hG4,hk4⟩;obtain⟨A4,c4,rfl,h41,h42,_⟩:=aR ho;obtain⟨tL,hgd2,hgd3⟩:=Jx hgt (by omega);have eL:=aa hG4;have dm:=aa (aO HK.out hk4 (λ_ e=>.inl e));have hit:=aW ho rfl;have hbl:=λb off (e:A4=Yr ⟨b,off,Yq⟩)=>aB ho b (by subst e;rfl)
   have HIT:=aa hit;clear hG4 hk4 ho hit hgt HG HK;go_wp2_with fail;refine(tP 1 (.inl rfl) B g _ A4 f.length c4 f _ eL.out (by omega) rfl HIT.out (λb off e=>by have:=hbl b off e;omega) (by omega) (by omega) tL hgd2 hgd3).mono ?_;rintro e w5 ⟨raw,rfl,hR,Fz,fZ,hk5⟩;have dh:=aa (aO dm.out hk5 (λ_ e=>.inl e));have kU:=aa hR;obtain⟨Q0,hQ,fZ⟩:∃Q,Q+3<=P+2+400*(us.length+1)/\bp w5 B g Q:=⟨_,by omega,fZ⟩;have We:Q0<=1000000:=by omega
   have jO:=aa fZ;clear fZ hk5 eL dm hR HIT hbl tL hgd2 hgd3;go_wp2_with fail;refine(bR B g Q0 3 _ (jO.out.ai ((ac.refl _).alloc (.cells #[Yi ⟨#[112]⟩,Yi ⟨#[108,105]⟩,Yi ⟨#[116,105,116,108,101]⟩] 9))) (by omega) (by omega) (by omega)).mono ?_;rintro e w7 ⟨ni,rfl,hni,hG7,hk7⟩
   obtain⟨nm,be,hnms⟩:∃nm:ByteArray,(#[Yi ⟨#[112]⟩,Yi ⟨#[108,105]⟩,Yi ⟨#[116,105,116,108,101]⟩]:Array Value)[ni]?=Yr (Yi nm)/\nm.1.1=St.jr ni:=by
    rcases(show ni=0\/ni=1\/ni=2 by omega)with h|h|h<;>subst h<;>exact⟨_,rfl,rfl⟩
   have QG:=jO.out.lt;have hcell:=gN w5 w7 _ _ B g hk7 QG.1 QG.2 ni _ be;have hnz:nm.size<=5:=by rw[<-St.aC,hnms];unfold St.jr;split;decide;split<;>decide
   have lE:=aa (aO (bK dh.out ((ac.refl _).alloc _)) hk7 (λ_ e=>.inl e));obtain⟨Q,hQ,hG7⟩:∃Q,Q=Q0+1/\bp w7 B g Q:=⟨_,rfl,hG7⟩;have wD:=aa hG7;have L6:=hk7.size;haveI:af w5.1.size w7:=af.of (cx _ _ hcell);have UC:=aa hnms;clear hG7 hk7 jO dh be hnms;go_wp2_with fail;refine bU (λa b=>a.grownBy b (Yr g)) (λL W=>bp W B g (Q+(if L 5 then 1 else 0)+(if L 18 then 1 else 0))) [λv _=>v=Yi data,λv _=>v=Yi nm,λv _=>v=Yi ((⟨#[60]⟩:ByteArray)++nm),λv W=>∃b,v=Yj (Yr ⟨b,0,Yq⟩) 2 2/\B<=b/\b<W.1.size/\∀r,r<2->W.cell? ⟨b,r,Yq⟩=Yr (Yi (fs r)),λv _=>v=Yl (Yr ⟨g,0,Yq⟩),λv _=>∃r:Nat,r<2/\v=Yh Yn r,λv W=>∃b r,r<2/\B<=b/\b<W.1.size/\v=Yl (Yr ⟨b,r,Yq⟩)/\W.cell? ⟨b,r,Yq⟩=Yr (Yi (fs r)),λv _=>∃r:Nat,r<2/\v=Yi (fs r),λv _=>∃q:Nat,q<2/\v=Yi ((⟨#[60]⟩:ByteArray)++nm++fs q),λv _=>∃q:Nat,q<2/\v=Yi ((⟨#[60]⟩:ByteArray)++nm++fs q++(⟨#[62]⟩:ByteArray)),λv _=>v=Yi raw,λv _=>∃q:Nat,q<2/\v=Yi ((⟨#[60]⟩:ByteArray)++nm++fs q++(⟨#[62]⟩:ByteArray)++raw),λv _=>∃q:Nat,q<2/\v=Yi ((⟨#[60]⟩:ByteArray)++nm++fs q++(⟨#[62]⟩:ByteArray)++raw++(⟨#[60,47]⟩:ByteArray)),λv _=>v=Yi nm,λv _=>∃q:Nat,q<2/\v=Yi ((⟨#[60]⟩:ByteArray)++nm++fs q++(⟨#[62]⟩:ByteArray)++raw++(⟨#[60,47]⟩:ByteArray)++nm),λv _=>∃q:Nat,q<2/\v=Yi ((⟨#[60]⟩:ByteArray)++nm++fs q++(⟨#[62]⟩:ByteArray)++raw++(⟨#[60,47]⟩:ByteArray)++nm++(⟨#[62]⟩:ByteArray)),λv W=>∃b,v=Yj (Yr ⟨b,0,Yq⟩) 3 3/\B<=b/\b<W.1.size/\∀r,r<3->W.cell? ⟨b,r,Yq⟩=Yr (Yi (kz r)),λv _=>v=Yl (Yr ⟨g,0,Yq⟩),λv _=>∃r:Nat,r<3/\v=Yh Yn r,λv W=>∃b r,r<3/\B<=b/\b<W.1.size/\v=Yl (Yr ⟨b,r,Yq⟩)/\W.cell? ⟨b,r,Yq⟩=Yr (Yi (kz r)),λv _=>∃r:Nat,r<3/\v=Yi (kz r),λv _=>∃q r:Nat,q<2/\r<3/\v=Yi ((⟨#[60]⟩:ByteArray)++nm++fs q++(⟨#[62]⟩:ByteArray)++raw++(⟨#[60,47]⟩:ByteArray)++nm++(⟨#[62]⟩:ByteArray)++kz r),λv _=>∃q r:Nat,q<2/\r<3/\v=Yi (data++((⟨#[60]⟩:ByteArray)++nm++fs q++(⟨#[62]⟩:ByteArray)++raw++(⟨#[60,47]⟩:ByteArray)++nm++(⟨#[62]⟩:ByteArray)++kz r)),λv _=>∃q r:Nat,q<2/\r<3/\v=Yi (data++((⟨#[60]⟩:ByteArray)++nm++fs q++(⟨#[62]⟩:ByteArray)++raw++(⟨#[60,47]⟩:ByteArray)++nm++(⟨#[62]⟩:ByteArray)++kz r))] (λa=>bA a _) (λa b c h k=>aO h k (λ_ e=>.inl e)) (by kernel_rfl) (by rfl) (by kernel_rfl) (by kernel_rfl) ?fr ?hfr ?hI ?hob ?hend
   case hfr=>
    intro ρ;simp only[bZ,Act.put,ax,aw,ay,Nat.zero_add,Nat.reduceAdd];exact rfl
   case hI=>exact(wD.out.ai (by exact uZ)).le (by simp)
   case hob=>
    refine aq.cons (λρ L W hR hI hL hD hO hF K hK=>?_) ?_
    ·have ew:g<W.1.size:=Nat.lt_of_lt_of_le hI.lt.1 hI.lt.2;have fk:=hI.lt.2;have eo:ρ 23=Yi data:=hO 23 _ 7 rfl rfl (hD.not (p:=23) rfl (by decide) hL);clear hF hD hO;simp only[Act.put,ax,aw,ay]at hK |-;rw[eo]at hK |-;go_simp;refine hK _ _ (bA _ _) (by simpa[ar]using hI) (λW2 h2=>?_);rfl
    refine aq.cons (λρ L W hR hI hL hD hO hF K hK=>?_) ?_
    ·have ew:g<W.1.size:=Nat.lt_of_lt_of_le hI.lt.1 hI.lt.2;have fk:=hI.lt.2;clear hF hD hO;simp only[Act.put,ax,aw,ay]at hK |-;go_simp;refine hK _ _ (bA _ _) (by simpa[ar]using hI) (λW2 h2=>?_);rfl
    refine aq.cons (λρ L W hR hI hL hD hO hF K hK=>?_) ?_
    ·have ew:g<W.1.size:=Nat.lt_of_lt_of_le hI.lt.1 hI.lt.2;have fk:=hI.lt.2;have f1:=ag hF (j:=1) (by decide);clear hF hD hO;simp only[Act.put,ax,aw,ay]at hK |-;have e1:ρ 1=Yi nm:=f1;rw[e1]at hK |-;have y1:¬9223372036854775807<1+nm.size:=by omega
     go_simp;refine hK _ _ (bA _ _) (by simpa[ar]using hI) (λW2 h2=>?_);rfl
    refine aq.cons (λρ L W hR hI hL hD hO hF K hK=>?_) ?_
    ·have ew:g<W.1.size:=Nat.lt_of_lt_of_le hI.lt.1 hI.lt.2;have fk:=hI.lt.2;clear hF hD hO;simp only[Act.put,ax,aw,ay]at hK |-;go_simp;refine hK _ _ (((ac.refl W).alloc _).gb _) (by simpa[ar]using hI.ai ((ac.refl W).alloc _)) (λW2 h2=>⟨W.1.size,rfl,fk,by have:=h2.size;simp at this;omega,λr hr=>?_⟩);rw[dA h2 (p:=⟨W.1.size,r,Yq⟩) (by simp) (by simp;omega),World.cell?_alloc_at _ _ _ _ rfl];rcases(show r=0\/r=1 by omega)with h|h<;>subst h<;>rfl
    refine aq.cons (λρ L W hR hI hL hD hO hF K hK=>?_) ?_
    ·have ew:g<W.1.size:=Nat.lt_of_lt_of_le hI.lt.1 hI.lt.2;have fk:=hI.lt.2;clear hF hD hO;simp only[Act.put,ax,aw,ay]at hK |-;go_simp;refine hK _ _ (bA _ _) (by simpa[ar]using hI) (λW2 h2=>?_);rfl
    refine aq.cons (λρ L W hR hI hL hD hO hF K hK=>?_) ?_
    ·have ew:g<W.1.size:=Nat.lt_of_lt_of_le hI.lt.1 hI.lt.2;have fk:=hI.lt.2;have f4:=ag hF (j:=4) (by decide);clear hF hD hO;simp only[Act.put,ax,aw,ay]at hK |-;have e4:ρ 4=Yl (Yr ⟨g,0,Yq⟩):=f4;rw[e4]at hK |-;have QI:bp W B g (Q+(if L 18 then 1 else 0)):=hI.le (by simp[hL]);refine oo (o:=⟨Yr 81,_,_,_,_,_⟩) rfl 64 #[Yl (Yr ⟨g,0,Yq⟩),Yh Yn 2] _ (bR B g (Q+(if L 18 then 1 else 0)) 2 W QI (by split<;>omega) (by omega) (by omega)) ?_ ?_
     ·go_simp
     rintro e W2 ⟨r,rfl,hr,hG2,hk⟩;exact⟨_,rfl,hK _ _ hk (hG2.le (by simp[ar];try omega)) (λW3 h3=>⟨r,by omega,rfl⟩)⟩
    refine aq.cons (λρ L W hR hI hL hD hO hF K hK=>?_) ?_
    ·have ew:g<W.1.size:=Nat.lt_of_lt_of_le hI.lt.1 hI.lt.2;have fk:=hI.lt.2;have f3:=ag hF (j:=3) (by decide);have f5:=ag hF (j:=5) (by decide);clear hF hD hO;simp only[Act.put,ax,aw,ay]at hK |-;obtain⟨b,e0,hb1,hb2,hc⟩:=f3;obtain⟨r,hr,e2⟩:=f5;rw[e0,e2]at hK |-;have z1:(r:Int)<2:=by omega
     haveI:af b W:=af.of hb2;go_simp;refine hK _ _ (bA _ _) (by simpa[ar]using hI) (λW2 h2=>?_);have hc2:=(dA h2 (p:=⟨b,r,Yq⟩) hb2 (by simp;omega)).trans (hc r hr);exact⟨b,r,hr,hb1,Nat.lt_of_lt_of_le hb2 h2.size,rfl,hc2⟩
    refine aq.cons (λρ L W hR hI hL hD hO hF K hK=>?_) ?_
    ·have ew:g<W.1.size:=Nat.lt_of_lt_of_le hI.lt.1 hI.lt.2;have fk:=hI.lt.2;have f6:=ag hF (j:=6) (by decide);clear hF hD hO;simp only[Act.put,ax,aw,ay]at hK |-;obtain⟨b,r,hr,hb1,hb2,e3,hc⟩:=f6;rw[e3]at hK |-;haveI:af b W:=af.of hb2;go_simp;refine hK _ _ (bA _ _) (by simpa[ar]using hI) (λW2 h2=>?_);exact⟨r,hr,rfl⟩
    refine aq.cons (λρ L W hR hI hL hD hO hF K hK=>?_) ?_
    ·have ew:g<W.1.size:=Nat.lt_of_lt_of_le hI.lt.1 hI.lt.2;have fk:=hI.lt.2;have f2:=ag hF (j:=2) (by decide);have f7:=ag hF (j:=7) (by decide);clear hF hD hO;simp only[Act.put,ax,aw,ay]at hK |-;have e2:ρ 2=Yi ((⟨#[60]⟩:ByteArray)++nm):=f2;obtain⟨q,hq,e7⟩:=f7;rw[e2,e7]at hK |-;have qZ:=jl q;have y1:¬9223372036854775807<1+nm.size+(fs q).size:=by omega
     go_simp;refine hK _ _ (bA _ _) (by simpa[ar]using hI) (λW2 h2=>?_);exact⟨q,hq,rfl⟩
    refine aq.cons (λρ L W hR hI hL hD hO hF K hK=>?_) ?_
    ·have ew:g<W.1.size:=Nat.lt_of_lt_of_le hI.lt.1 hI.lt.2;have fk:=hI.lt.2;have f8:=ag hF (j:=8) (by decide);clear hF hD hO;simp only[Act.put,ax,aw,ay]at hK |-;obtain⟨q,hq,e8⟩:=f8;rw[e8]at hK |-;have qZ:=jl q;have y1:¬9223372036854775807<1+nm.size+(fs q).size+1:=by omega
     go_simp;refine hK _ _ (bA _ _) (by simpa[ar]using hI) (λW2 h2=>?_);exact⟨q,hq,rfl⟩
    refine aq.cons (λρ L W hR hI hL hD hO hF K hK=>?_) ?_
    ·have ew:g<W.1.size:=Nat.lt_of_lt_of_le hI.lt.1 hI.lt.2;have fk:=hI.lt.2;clear hF hD hO;simp only[Act.put,ax,aw,ay]at hK |-;go_simp;refine hK _ _ (bA _ _) (by simpa[ar]using hI) (λW2 h2=>?_);rfl
    refine aq.cons (λρ L W hR hI hL hD hO hF K hK=>?_) ?_
    ·have ew:g<W.1.size:=Nat.lt_of_lt_of_le hI.lt.1 hI.lt.2;have fk:=hI.lt.2;have f9:=ag hF (j:=9) (by decide);have f10:=ag hF (j:=10) (by decide);clear hF hD hO;simp only[Act.put,ax,aw,ay]at hK |-;obtain⟨q,hq,e9⟩:=f9;have e10:ρ 10=Yi raw:=f10;rw[e9,e10]at hK |-;have qZ:=jl q;have y1:¬9223372036854775807<1+nm.size+(fs q).size+1+raw.size:=by omega
     go_simp;refine hK _ _ (bA _ _) (by simpa[ar]using hI) (λW2 h2=>?_);exact⟨q,hq,rfl⟩
    refine aq.cons (λρ L W hR hI hL hD hO hF K hK=>?_) ?_
    ·have ew:g<W.1.size:=Nat.lt_of_lt_of_le hI.lt.1 hI.lt.2;have fk:=hI.lt.2;have f11:=ag hF (j:=11) (by decide);clear hF hD hO;simp only[Act.put,ax,aw,ay]at hK |-;obtain⟨q,hq,e11⟩:=f11;rw[e11]at hK |-;have qZ:=jl q;have y1:¬9223372036854775807<1+nm.size+(fs q).size+1+raw.size+2:=by omega
     go_simp;refine hK _ _ (bA _ _) (by simpa[ar]using hI) (λW2 h2=>?_);exact⟨q,hq,rfl⟩
    refine aq.cons (λρ L W hR hI hL hD hO hF K hK=>?_) ?_
    ·have ew:g<W.1.size:=Nat.lt_of_lt_of_le hI.lt.1 hI.lt.2;have fk:=hI.lt.2;clear hF hD hO;simp only[Act.put,ax,aw,ay]at hK |-;go_simp;refine hK _ _ (bA _ _) (by simpa[ar]using hI) (λW2 h2=>?_);rfl
    refine aq.cons (λρ L W hR hI hL hD hO hF K hK=>?_) ?_
    ·have ew:g<W.1.size:=Nat.lt_of_lt_of_le hI.lt.1 hI.lt.2;have fk:=hI.lt.2;have f12:=ag hF (j:=12) (by decide);have f13:=ag hF (j:=13) (by decide);clear hF hD hO;simp only[Act.put,ax,aw,ay]at hK |-;obtain⟨q,hq,e12⟩:=f12;have Ji:ρ 13=Yi nm:=f13;rw[e12,Ji]at hK |-;have qZ:=jl q;have y1:¬9223372036854775807<1+nm.size+(fs q).size+1+raw.size+2+nm.size:=by omega
     go_simp;refine hK _ _ (bA _ _) (by simpa[ar]using hI) (λW2 h2=>?_);exact⟨q,hq,rfl⟩
    refine aq.cons (λρ L W hR hI hL hD hO hF K hK=>?_) ?_
    ·have ew:g<W.1.size:=Nat.lt_of_lt_of_le hI.lt.1 hI.lt.2;have fk:=hI.lt.2;have f14:=ag hF (j:=14) (by decide);clear hF hD hO;simp only[Act.put,ax,aw,ay]at hK |-;obtain⟨q,hq,Cx⟩:=f14;rw[Cx]at hK |-;have qZ:=jl q;have y1:¬9223372036854775807<1+nm.size+(fs q).size+1+raw.size+2+nm.size+1:=by omega
     go_simp;refine hK _ _ (bA _ _) (by simpa[ar]using hI) (λW2 h2=>?_);exact⟨q,hq,rfl⟩
    refine aq.cons (λρ L W hR hI hL hD hO hF K hK=>?_) ?_
    ·have ew:g<W.1.size:=Nat.lt_of_lt_of_le hI.lt.1 hI.lt.2;have fk:=hI.lt.2;clear hF hD hO;simp only[Act.put,ax,aw,ay]at hK |-;go_simp;refine hK _ _ (((ac.refl W).alloc _).gb _) (by simpa[ar]using hI.ai ((ac.refl W).alloc _)) (λW2 h2=>⟨W.1.size,rfl,fk,by have:=h2.size;simp at this;omega,λr hr=>?_⟩);rw[dA h2 (p:=⟨W.1.size,r,Yq⟩) (by simp) (by simp;omega),World.cell?_alloc_at _ _ _ _ rfl];rcases(show r=0\/r=1\/r=2 by omega)with h|h|h<;>subst h<;>rfl
    refine aq.cons (λρ L W hR hI hL hD hO hF K hK=>?_) ?_
    ·have ew:g<W.1.size:=Nat.lt_of_lt_of_le hI.lt.1 hI.lt.2;have fk:=hI.lt.2;clear hF hD hO;simp only[Act.put,ax,aw,ay]at hK |-;go_simp;refine hK _ _ (bA _ _) (by simpa[ar]using hI) (λW2 h2=>?_);rfl
    refine aq.cons (λρ L W hR hI hL hD hO hF K hK=>?_) ?_
    ·have ew:g<W.1.size:=Nat.lt_of_lt_of_le hI.lt.1 hI.lt.2;have fk:=hI.lt.2;have f17:=ag hF (j:=17) (by decide);clear hF hD hO;simp only[Act.put,ax,aw,ay]at hK |-;have e17:ρ 17=Yl (Yr ⟨g,0,Yq⟩):=f17;rw[e17]at hK |-;have QI:bp W B g (Q+(if L 5 then 1 else 0)):=hI.le (by simp[hL]);refine oo (o:=⟨Yr 94,_,_,_,_,_⟩) rfl 64 #[Yl (Yr ⟨g,0,Yq⟩),Yh Yn 3] _ (bR B g (Q+(if L 5 then 1 else 0)) 3 W QI (by split<;>omega) (by omega) (by omega)) ?_ ?_
     ·go_simp
     rintro e W2 ⟨r,rfl,hr,hG2,hk⟩;exact⟨_,rfl,hK _ _ hk (hG2.le (by simp[ar];try omega)) (λW3 h3=>⟨r,by omega,rfl⟩)⟩
    refine aq.cons (λρ L W hR hI hL hD hO hF K hK=>?_) ?_
    ·have ew:g<W.1.size:=Nat.lt_of_lt_of_le hI.lt.1 hI.lt.2;have fk:=hI.lt.2;have f16:=ag hF (j:=16) (by decide);have f18:=ag hF (j:=18) (by decide);clear hF hD hO;simp only[Act.put,ax,aw,ay]at hK |-;obtain⟨b,e0,hb1,hb2,hc⟩:=f16;obtain⟨r,hr,e2⟩:=f18;rw[e0,e2]at hK |-;have z1:(r:Int)<3:=by omega
     haveI:af b W:=af.of hb2;go_simp;refine hK _ _ (bA _ _) (by simpa[ar]using hI) (λW2 h2=>?_);have hc2:=(dA h2 (p:=⟨b,r,Yq⟩) hb2 (by simp;omega)).trans (hc r hr);exact⟨b,r,hr,hb1,Nat.lt_of_lt_of_le hb2 h2.size,rfl,hc2⟩
    refine aq.cons (λρ L W hR hI hL hD hO hF K hK=>?_) ?_
    ·have ew:g<W.1.size:=Nat.lt_of_lt_of_le hI.lt.1 hI.lt.2;have fk:=hI.lt.2;have f19:=ag hF (j:=19) (by decide);clear hF hD hO;simp only[Act.put,ax,aw,ay]at hK |-;obtain⟨b,r,hr,hb1,hb2,e3,hc⟩:=f19;rw[e3]at hK |-;haveI:af b W:=af.of hb2;go_simp;refine hK _ _ (bA _ _) (by simpa[ar]using hI) (λW2 h2=>?_);exact⟨r,hr,rfl⟩
    refine aq.cons (λρ L W hR hI hL hD hO hF K hK=>?_) ?_
    ·have ew:g<W.1.size:=Nat.lt_of_lt_of_le hI.lt.1 hI.lt.2;have fk:=hI.lt.2;have f15:=ag hF (j:=15) (by decide);have f20:=ag hF (j:=20) (by decide);clear hF hD hO;simp only[Act.put,ax,aw,ay]at hK |-;obtain⟨q,hq,Jj⟩:=f15;obtain⟨r,hr,e20⟩:=f20;rw[Jj,e20]at hK |-;have qZ:=jl q;have hbl:=uj r;have y1:¬9223372036854775807<1+nm.size+(fs q).size+1+raw.size+2+nm.size+1+(kz r).size:=by omega
     go_simp;refine hK _ _ (bA _ _) (by simpa[ar]using hI) (λW2 h2=>?_);exact⟨q,r,hq,hr,rfl⟩
    refine aq.cons (λρ L W hR hI hL hD hO hF K hK=>?_) ?_
    ·have ew:g<W.1.size:=Nat.lt_of_lt_of_le hI.lt.1 hI.lt.2;have fk:=hI.lt.2;have f0:=ag hF (j:=0) (by decide);have f21:=ag hF (j:=21) (by decide);clear hF hD hO;simp only[Act.put,ax,aw,ay]at hK |-;have e0:ρ 0=Yi data:=f0;obtain⟨q,r,hq,hr,e21⟩:=f21;rw[e0,e21]at hK |-;have qZ:=jl q;have hbl:=uj r;have y1:¬9223372036854775807<data.size+(1+nm.size+(fs q).size+1+raw.size+2+nm.size+1+(kz r).size):=by omega
     go_simp;refine hK _ _ (bA _ _) (by simpa[ar]using hI) (λW2 h2=>?_);exact⟨q,r,hq,hr,rfl⟩
    refine aq.cons (λρ L W hR hI hL hD hO hF K hK=>?_) ?_
    ·have ew:g<W.1.size:=Nat.lt_of_lt_of_le hI.lt.1 hI.lt.2;have fk:=hI.lt.2;have f22:=ag hF (j:=22) (by decide);clear hF hD hO;simp only[Act.put,ax,aw,ay]at hK |-;obtain⟨q,r,hq,hr,e22⟩:=f22;rw[e22]at hK |-;go_simp;refine hK _ _ (bA _ _) (by simpa[ar]using hI) (λW2 h2=>?_);exact⟨q,r,hq,hr,rfl⟩
    exact aq.nil
   case hend=>
    intro ρ L W hR hI hL hF;obtain⟨_,_,_,_,_,_,_,_,_,_,_,_,_,_,_,_,_,_,_,_,_,_,_,⟨q,r,hq,hr,g23⟩,_⟩:=hF;have TP:bp W B g (Q+2):=hI.le (by split<;>split<;>omega);have PM:=aa TP;have sC:=aa (aO (bK lE.out (show ac w7 w7.drew from(ac.refl _).drew)) hR (λ_ e=>.inl e));have qZ:=jl q;have hbl:=uj r;clear hI hR hL TP lE wD;rw[g23];clear g23;go_wp2;obtain⟨u,hu⟩:∃u:St.Wu,u=⟨[60]++(St.jr ni++St.od q)++[62],Lib.decDigits (us.length+1),raw.1.1,St.dn (St.jr ni)++St.lg r⟩:=⟨_,rfl⟩;refine⟨⟨i-1,_,us++[u],rfl,congrArg (Yh Yn) (by omega),by simp;omega,?_,⟨?_,St.we mH.out.2 (by subst hu;exact⟨ni,q,r,hr,rfl,rfl,rfl⟩)⟩,?_,PM.out.le (by rw[List.length_append,List.length_singleton];omega),sC.out⟩,by simp[intOf];omega⟩
    ·rw[St.qu,<-List.append_assoc,<-zr.out,hu];simp[fs,kz,UC.out,St.dn]
    ·intro v hv;rcases List.mem_append.1 hv with hv|hv
     ·exact mH.out.1 v hv
     simp at hv;subst hv;subst hu;exact kU.out
    rw[List.length_append,List.length_singleton];simp only[ByteArray.size_append]
    show _+(1+_+_+1+_+2+_+1+_)<=_
    omega
  have z:¬(0:Int)<(i:Int):=by omega
  have hlen:us.length=m:=by omega
  go_wp2;go_ret;exact⟨data,rfl,⟨St.jp h,us,zr.out,.inl ⟨rfl,⟨h,hr3,rfl⟩,mH.out.2⟩,by omega,mH.out.1⟩,by omega,HG.out.le (by omega),HK.out⟩
end
