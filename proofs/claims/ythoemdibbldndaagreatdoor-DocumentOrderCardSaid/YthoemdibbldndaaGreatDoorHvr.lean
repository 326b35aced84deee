/- The contracts of the makers longer and Raws at any format: pieces, each in a form of its. -/
import Derived.Test.YthoemdibbldndaaGreatDoorHvd
set_option linter.all false
set_option maxHeartbeats 0
set_option maxRecDepth 20000
open Go.Value renaming int->Yp,string->Yq,slice->Yr,pointer->Yt
open Go.IntKind renaming i64->Yv
open Go.Ending renaming returned->Yx
open Option renaming none->Yy,some->Yz
open Go renaming World->YA
namespace Go.Proofs.YthoemdibbldndaaGreatDoor
open Go.RowKit
section
theorem KD(fmt:Int)(hk:fmt=1\/fmt=2\/fmt=3)(B g P:Nat)(p:St.It)(w:YA)(hG:bp w B g P)(hP:P<=1000000)(hu:(St.aL fmt p).length<=1000000) :
  Calls Tryz.prog 175 #[Yt (Yz ⟨g,0,Yy⟩),Yp Yv fmt,.agg #[Yp Yv p.1,Yq ⟨p.2.1.toArray⟩,Yp Yv p.2.2],Yq ⟨(St.aL fmt p).toArray⟩] w λe w'=>∃b:List UInt8,e=Yx (Yq ⟨b.toArray⟩)/\St.jY fmt p b/\bp w' B g (P+1)/\w.grownBy w' (Yz g):=by
 obtain⟨k,x,i⟩:=p;have fin:∀(W:YA) (b:List UInt8),ac w W->St.jY fmt (k,x,i) b->∃b':List UInt8,Ending.returned (Yq ⟨b.toArray⟩)=Yx (Yq ⟨b'.toArray⟩)/\St.jY fmt (k,x,i) b'/\bp W B g (P+1)/\w.grownBy W (Yz g):=λW b hW hb=>⟨b,rfl,hb,(hG.ai hW).le (by omega),hW.gb _⟩
 have il:=aa fin;have HG:=aa hG;obtain⟨kg,hB⟩:=hG.lt;clear fin hG;simp only at hu |-;rcases hk with rfl|rfl|rfl
 ·have FU:=aa (λW (hW:ac w W)=>il.out W _ hW (.inl rfl));have Ot:=jV ⟨x.toArray⟩ [62];have Hj:=jV ⟨x.toArray⟩ [125];have hxl:((⟨x.toArray⟩:ByteArray).1.1)=x:=by simp
  rw[hxl]at Ot Hj
  by_cases h3:x=[62]
  ·subst h3;clear Ot Hj hxl
   by_cases hk1:k=1
   ·subst hk1;generalize(⟨(St.aL 1 (1,[62],i)).toArray⟩:ByteArray)=uu at *;go_enter Tryz.func175,Tryz.ntmps175;go_wp2;go_ret;exact il.out _ [38,103,116,59] (uZ) (.inr (.inl ⟨rfl,rfl,.inl ⟨rfl,rfl⟩⟩))
   have q2:(k==1)=false:=by simpa using hk1
   clear hk1;generalize(⟨(St.aL 1 (k,[62],i)).toArray⟩:ByteArray)=uu at *;go_enter Tryz.func175,Tryz.ntmps175;go_wp2;go_ret;exact FU.out _ (uZ)
  by_cases h4:x=[125]
  ·subst h4;clear Ot Hj hxl h3
   by_cases hk1:k=1
   ·subst hk1;generalize(⟨(St.aL 1 (1,[125],i)).toArray⟩:ByteArray)=uu at *;go_enter Tryz.func175,Tryz.ntmps175;go_wp2;go_ret;exact il.out _ [38,114,98,59] (uZ) (.inr (.inl ⟨rfl,rfl,.inr ⟨rfl,rfl⟩⟩))
   have q2:(k==1)=false:=by simpa using hk1
   clear hk1;generalize(⟨(St.aL 1 (k,[125],i)).toArray⟩:ByteArray)=uu at *;go_enter Tryz.func175,Tryz.ntmps175;go_wp2;go_ret;exact FU.out _ (uZ)
  rw[decide_eq_false h3]at Ot;rw[decide_eq_false h4]at Hj;generalize(⟨(St.aL 1 (k,x,i)).toArray⟩:ByteArray)=uu at *;generalize(⟨x.toArray⟩:ByteArray)=s at *;clear h3 h4 hxl;go_enter Tryz.func175,Tryz.ntmps175;go_wp2;go_ret;exact FU.out _ (uZ)
 ·by_cases hx:k=1/\x=[32]
  ·obtain⟨rfl,rfl⟩:=hx;generalize(⟨(St.aL 2 (1,[32],i)).toArray⟩:ByteArray)=uu at *;go_enter Tryz.func175,Tryz.ntmps175;go_wp2;go_ret;exact il.out _ [92,115] (uZ) (.inr (.inr ⟨rfl,.inl ⟨rfl,rfl,rfl⟩⟩))
  refine(IL B g P k x i (St.aL 2 (k,x,i)) w HG.out hP hu hx).mono ?_;rintro e w' ⟨r,hr,rfl,h1,h2⟩;exact⟨_,rfl,.inr (.inr ⟨rfl,.inr ⟨r,hr,rfl⟩⟩),h1,h2⟩
 have FU:=aa (λW (hW:ac w W)=>il.out W _ hW (.inl rfl));generalize(⟨(St.aL 3 (k,x,i)).toArray⟩:ByteArray)=uu at *;generalize(⟨x.toArray⟩:ByteArray)=s;go_enter Tryz.func175,Tryz.ntmps175;go_wp2;go_ret;exact FU.out _ (uZ)
theorem Nj{fmt:Int}{f:List St.It}{p:St.It}(h:St.jq fmt f)(hp:p∈St.aE f):St.bn fmt [p]=(St.aL fmt p,0):=by
 have hx:=h.IS p hp;have hg:=St.qp (fmt:=fmt) hx
 have h0:p.1=1->p.2.2=0:=λh1=>by
  rcases hx.1 with⟨c,rfl⟩|⟨t,rfl,_⟩|⟨t,i,rfl|rfl,_⟩|⟨t,i,rfl,_⟩
  ·rfl
  all_goals exact absurd h1 (by simp)
 have hs:=St.uA [p] λq hq h1=>by
  simp at hq;subst hq;exact⟨hg.2 h1,h0 h1⟩
 have hold:St.jq fmt [p]:=by
  refine⟨?_,λx WH=>?_,List.pairwise_singleton _ _⟩
  ·show St.bI [p]=[p]
   unfold St.bI;rw[List.foldl_cons,List.foldl_nil,St.dU]
   split
   ·rename_i h1
    rw[if_neg (by intro e;have:=hg.2 h1;rw[e]at this;simp at this)];obtain⟨k,t,i⟩:=p;simp only at h0 h1;rw[h1,h0 h1]
   rfl
  obtain⟨hm,hn⟩:=List.mem_filter.1 WH;simp at hm;subst hm;exact h.items _ (by rw[<-St.dX];exact List.mem_filter.2 ⟨hp,hn⟩)
 have:=hold.enc (by simp) (by
  simp only[St.aA,St.aV,List.map_cons,List.map_nil,List.sum_cons,List.sum_nil]
  split
  ·rename_i h1;have:=hg.2 h1;omega
  omega)
 rw[this,hs];simp
def He(w:YA)(fmt:Int)(B g P:Nat)(f:List St.It)(s7 s8:Value)(wr:YA):Prop:=
 ∃(i:Nat) (raw:ByteArray) (ps:List (List UInt8 × St.It)),i<=St.aA f/\s8=Yp Yv i/\s7=Yq raw/\raw.1.1=St.a6 ps/\St.fJ ps=(St.aE f).take i/\(∀p∈ps,St.jY fmt p.2 p.1)/\raw.size<=40*i/\bp wr B g (P+2*i)/\w.grownBy wr (Yz g)
theorem um(fmt:Int)(OG:fmt=1\/fmt=2\/fmt=3)(B g P:Nat)(A:Option Addr)(n c:Nat)(f:List St.It)(w:YA)(hG:bp w B g P)(hP:P<=100000)(hn:f.length=n)(h:aJ w A f)(hne:∀b off,A=Yz ⟨b,off,Yy⟩->b≠g)
  (hl:n<=10) (ht:aY f<=115) (fU:St.jq fmt f) (hok:∃q,St.fy (St.aE f) [] 0=Yz ([],q)) (RT:∀x∈St.b6 f,x.2.1.length<=24) :
  Calls Tryz.prog 133 #[Yt (Yz ⟨g,0,Yy⟩),Yp Yv fmt,Yr A n c] w λe w'=>∃raw:ByteArray,e=Yx (Yq raw)/\(∃f ps q,St.jC fmt f raw.1.1 ps q/\f.length<=10/\aY f<=115)/\raw.size<=5000/\bp w' B g (P+250)/\w.grownBy w' (Yz g):=by
 have HG:=aa hG;have H:=aa h;have HN:=aa hn;have gK:=aa hne;have pP:=aa fU;have FO:=aa RT;have xj:=aa hok;obtain⟨kg,hB⟩:=hG.lt;have hll:St.aA f<=125:=by have:=gv f;omega
 clear hG h hn hne fU RT hok;go_enter Tryz.func133,Tryz.ntmps133;go_wp2_with fail;go_loopw [7,8] (λs7 s8 wr=>He w fmt B g P f s7 s8 wr) (λ_ s8 _=>St.aA f+1-(intOf s8).toNat)
 case atStart=>exact⟨0,⟨#[]⟩,[],by omega,rfl,rfl,rfl,rfl,(λp hp=>by cases hp),by show 0<=_;omega,HG.out,bC _ _⟩
 case round=>
  clear HG;obtain⟨i,raw,ps,hi,rfl,rfl,po,hits,hform,hrs,hG,hk⟩:=hrel;have HG:=aa hG;have HK:=aa hk;have Qx:=aa po;have HITS:=aa hits;have N7:=aa hform;have hI:=Bp H.out hk gK.out;have HI:=aa hI;have hlen:=aa (ny A n c f wr HN.out hI (by omega) (by omega));have hsz:=hk.size;clear hG hk po hits hform hI
  by_cases hlt:i<St.aA f
  ·have z1:(i:Int)<(St.aA f:Nat):=by omega
   have hpl:i<(St.aE f).length:=by rw[St.ep];exact hlt
   have hone:=St.BQ i f 0 (St.kL pP.out.nm) (by omega) (by simpa using hpl);have hp0:=List.getElem_mem hpl;have hp1:=pP.out.IS _ hp0;have hp2:=Nj pP.out hp0;have KH:=λh1=>St.GO FO.out hp0 h1
   have htk:(St.aE f).take (i+1)=(St.aE f).take i++[(St.aE f)[i]]:=by rw[List.take_add_one,List.getElem?_eq_getElem hpl];rfl
   simp only[Nat.sub_zero]at hone;have hsl:=sK A n c f i (i+1) wr HN.out HI.out (by omega) (by omega) (by omega) (by omega);rw[hone]at hsl;clear hp0;generalize(St.aE f)[i]=p at hone hp1 htk hsl hp2 KH;have hp1:St.yV fmt p:=hp1
   have hpt:p.2.1.length<=24:=by
    by_cases h1:p.1=1
    ·rw[(St.qp hp1).2 h1];omega
    exact KH h1
   have bB:=aa hsl;have hsz1:=λb (hb:St.jY fmt p b)=>(St.tX hp1 KH hb).1
   have hel:=(St.tX (fmt:=fmt) hp1 KH (.inl rfl)).2;have V3:=aa hsz1
   have Uw:∀(b:List UInt8),St.jY fmt p b->(raw++(⟨b.toArray⟩:ByteArray)).1.1=St.a6 (ps++[(b,p)])/\St.fJ (ps++[(b,p)])=(St.aE f).take (i+1)/\(∀q∈ps++[(b,p)],St.jY fmt q.2 q.1)/\(raw++(⟨b.toArray⟩:ByteArray)).size<=40*(i+1):=by
    intro b hb;refine⟨?_,?_,?_,?_⟩
    ·unfold St.a6;rw[List.flatMap_append];simp;rw[Qx.out];rfl
    ·rw[htk,<-HITS.out];simp[St.fJ]
    ·intro q hq;rcases List.mem_append.1 hq with hq|hq
     ·exact N7.out q hq
     simp at hq;subst hq;exact hb
    rw[ByteArray.size_append];have:=hsz1 b hb
    have:(⟨b.toArray⟩:ByteArray).size=b.length:=by show b.toArray.size=_;simp
    omega
   have TY:=aa Uw;have ti:(⟨(St.aL fmt p).toArray⟩:ByteArray).size=(St.aL fmt p).length:=by show(St.aL fmt p).toArray.size=_;simp
   clear hone hp1 htk hsl Uw KH hsz1;go_wp2_with fail;refine hlen.out.mono ?_;rintro e w2 ⟨rfl,rfl⟩;go_wp2_with fail;refine bB.out.mono ?_;rintro e w2 ⟨v,rfl,ho,hu2⟩;obtain⟨A2,c2,rfl,hc2,hc3,Q5⟩:=aW ho;simp only[List.length_singleton]at ho hc2 |-;obtain⟨g2,rfl,hg2a,hg2,hg2c⟩:=eE ho (by omega);have q0:=hg2c 0 _ (show(ak [p])[0]?=Yz (Yp Yv p.1)from rfl);have q1:=hg2c 1 _ (show(ak [p])[1]?=Yz (Yq ⟨p.2.1.toArray⟩)from rfl);have q2:=hg2c 2 _ (show(ak [p])[2]?=Yz (Yp Yv p.2.2)from rfl);have hit:=a7 ho rfl;have henc:=Ft fmt (Yz ⟨g2,0,Yy⟩) 1 c2 [p] w2 rfl hc2 (by unfold maxLen at hc3;omega) (λe=>by cases e) hit (by omega) (by simp[aY];omega);rw[hp2]at henc;have Qm:=aa henc;have gi:=aa (bO HK.out hu2);have HG2:=aa (HG.out.ai hu2);clear henc hit hg2c ho hu2 hlen bB HK HG hp2;go_wp2_with fail;refine Qm.out.mono ?_;rintro e w3 ⟨rfl,hu3⟩;have fL:=aa (bO gi.out hu3);have iG:=aa (HG2.out.ai hu3);have e0:=(hu3.cell hg2).trans q0;have e1:=(hu3.cell hg2).trans q1;have e2:=(hu3.cell hg2).trans q2;have MN:g2≠g:=by omega
   clear hu3 Qm gi HG2 q0 q1 q2;go_wp2_with fail;refine(bW B g _ 3 _ iG.out (by omega) (by omega) (by omega)).mono ?_;rintro e w4 ⟨r,rfl,hr,hG4,hk4⟩;have eS:=aa hG4;have dm:=aa (aN fL.out hk4 (λ_ e=>.inl e));have hg3:=cS _ _ e0;have d0:=(dD hk4 (p:=⟨g2,0,Yy⟩) hg3 (by simpa using MN)).trans e0;have d1:=(dD hk4 (p:=⟨g2,1,Yy⟩) hg3 (by simpa using MN)).trans e1;have d2:=(dD hk4 (p:=⟨g2,2,Yy⟩) hg3 (by simpa using MN)).trans e2;haveI:af g2 w4:=af.of (cS _ _ d0);clear hG4 hk4 iG fL e0 e1 e2
   by_cases tn:r=0
   ·subst tn;go_wp2_with fail;refine(KD fmt OG B g _ p _ eS.out (by omega) (by omega)).mono ?_;rintro e w5 ⟨b,rfl,hb,gl,hk5⟩;obtain⟨s1,s2,s3,s4⟩:=TY.out b hb;have hbl:=V3.out b hb;have hbz:(⟨b.toArray⟩:ByteArray).size=b.length:=by show b.toArray.size=_;simp
    have HE:=aa (And.intro s1 (And.intro s2 (And.intro s3 (And.intro gl (aN dm.out hk5 (λ_ e=>.inl e))))));have y1:¬9223372036854775807<raw.size+b.length:=by omega
    clear s1 s2 s3 gl hk5 hb;go_wp2;exact⟨⟨i+1,_,_,by omega,congrArg (Yp Yv) (by omega),rfl,HE.out.1,HE.out.2.1,HE.out.2.2.1,s4,HE.out.2.2.2.1.le (by omega),HE.out.2.2.2.2⟩,by simp[intOf];omega⟩
   have z2:((r:Int)==0)=false:=by simp;omega
   obtain⟨s1,s2,s3,s4⟩:=TY.out (St.aL fmt p) (.inl rfl);have HE:=aa (And.intro s1 (And.intro s2 s3));have y1:¬9223372036854775807<raw.size+(St.aL fmt p).length:=by omega
   clear s1 s2 s3 tn;go_wp2;exact⟨⟨i+1,_,_,by omega,congrArg (Yp Yv) (by omega),rfl,HE.out.1,HE.out.2.1,HE.out.2.2,s4,eS.out.le (by omega),dm.out⟩,by simp[intOf];omega⟩
  have z1:¬(i:Int)<(St.aA f:Nat):=by omega
  have hfin:∃f ps q,St.jC fmt f raw.1.1 ps q/\f.length<=10/\aY f<=115:=by
   obtain⟨q,hq⟩:=xj.out;exact⟨f,ps,q,⟨pP.out,hq,by have:=HN.out;omega,by omega,FO.out,Qx.out,by rw[HITS.out,List.take_of_length_le (by rw[St.ep];omega)],N7.out⟩,by have:=HN.out;omega,ht⟩
  have dA:=aa hfin;clear hfin;go_wp2_with fail;refine hlen.out.mono ?_;rintro e w2 ⟨rfl,rfl⟩;go_wp2;go_ret;exact⟨raw,rfl,dA.out,by omega,HG.out.le (by omega),HK.out⟩
theorem Ba{fmt:Int}{f:List St.It}(h:uY f):St.jq fmt f/\(∃q,St.fy (St.aE f) [] 0=Yz ([],q))/\∀x∈St.b6 f,x.2.1.length<=24:=by
 have hx:∀x∈St.b6 f,x.2.2=0/\x.1=5/\St.aF x.2.1=true:=λx hx=>by
  obtain⟨hm,hn⟩:=List.mem_filter.1 hx;obtain⟨h0,h1|h1⟩:=h.2 x hm
  ·simp[h1]at hn
  exact⟨h0,h1⟩
 have ht:St.mE f=[]:=by
  rw[<-St.jo];unfold St.mE;rw[List.filter_eq_nil_iff];intro x hm;rw[(hx x hm).2.1];decide
 refine⟨⟨h.1,λx hm=>.inl ⟨(hx x hm).2.1,(hx x hm).2.2,(hx x hm).1⟩,?_⟩,⟨0,?_⟩,λx hm=>(St.sn (hx x hm).2.2).1⟩
 ·rw[St.kq,ht];exact List.Pairwise.nil
 rw[St.pB _ _ _ (St.Ac λx hm _=>(hx x hm).1),show(St.aE f).filter (λx=>St.aQ x.1)=St.mE (St.aE f)from rfl,St.EZ,ht];rfl
theorem MC{ns:Bool}{f op:List St.It}{c:Nat}(h:St.eV ns f op c):∀x∈f,x.1≠1->x.2.1.length<=24:=by
 have add:∀ {f:List St.It} {x:St.It},(∀y∈f,y.1≠1->y.2.1.length<=24)->(x.1≠1->x.2.1.length<=24)->∀y∈St.aK f x,y.1≠1->y.2.1.length<=24:=by
  intro f x hf hx y hy h1;rcases St.gw hy with hy|rfl|⟨hy,_⟩
  ·exact hf y hy h1
  ·exact hx h1
  exact absurd hy h1
 have t4:∀t∈St.GU,t.length<=24:=by decide
 have t2:∀t∈St.BY,t.length<=24:=by decide
 induction h with
 | nil=>intro x hx;cases hx
 | text t h ih=>exact add ih (λe=>absurd rfl e)
 | slot t ht h ih=>exact add ih (λ_=>(St.sn ht).1)
 | empty t ht h ih=>exact add ih (λ_=>t4 t ht)
 | opened t ht h ih=>exact add ih (λ_=>t2 t ht)
 | closed k hk hl h ih=>exact add ih (λ_=>by
   have h1:=(h.small _ (List.getElem_mem hk)).1
   show(St.nameOf _).length<=24
   exact Nat.le_trans (St.wF _) (by omega))
 | stray hn h ih=>exact add ih (λ_=>by show 1<=24;omega)
theorem Kg{f:List St.It}{c:Nat}(h:St.eV true f [] c)(hc:c<=999):St.jq 1 f/\(∃q,St.fy (St.aE f) [] 0=Yz ([],q))/\∀x∈St.b6 f,x.2.1.length<=24:=by
 have hg:=St.Kf h hc;refine⟨⟨hg.nm,λx hx=>?_,hg.bH⟩,hg.ok,λx hx=>?_⟩
 ·obtain⟨hm,hn⟩:=List.mem_filter.1 hx;rcases hg.items x hm with⟨g,_⟩|g|g|g
  ·simp[g]at hn
  ·exact .inl g
  ·exact .inr ⟨rfl,.inl g⟩
  exact .inr ⟨rfl,.inr g⟩
 obtain⟨hm,hn⟩:=List.mem_filter.1 hx;exact MC h x hm (by simpa using hn)
end
section
def Cg(fmt:Int)(n:Nat)(data:ByteArray):Prop:=∃p us,data.1.1=p++St.bX us/\St.zuu fmt p us/\us.length<=n/\∀u∈us,∃f qs c,St.jC fmt f u.r qs c/\f.length<=10/\aY f<=115
theorem NI(r:Nat):(⟨(St.oA r).toArray⟩:ByteArray).size<=3:=by unfold St.oA;split;decide;split<;>decide
def SQ(w:YA)(B g P m h:Nat)(s7 s9:Value)(wr:YA):Prop:=
 ∃(i:Nat) (data:ByteArray) (us:List St.Wu),s7=Yq data/\s9=Yp Yv i/\us.length+i=m/\data.1.1=St.jZ h++St.bX us/\((∀u∈us,∃f qs c,St.jC 2 f u.r qs c/\f.length<=10/\aY f<=115)/\∀j u,us[j]?=Yz u->St.FV m j u)/\data.size<=4+5010*us.length/\bp wr B g (P+2+300*us.length)/\w.grownBy wr (Yz g)
theorem Il(B g P n:Nat)(w:YA)(hG:bp w B g P)(hP:P<=10000)(hn:n<=9) :
  Calls Tryz.prog 100 #[Yt (Yz ⟨g,0,Yy⟩),Yp Yv 2,Yp Yv n] w λe w'=>∃data:ByteArray,e=Yx (Yq data)/\Cg 2 n data/\data.size<=12+5010*n/\bp w' B g (P+2+300*n)/\w.grownBy w' (Yz g):=by
 have HG:=aa hG;obtain⟨kg,hB⟩:=hG.lt;clear hG;go_enter Tryz.func100,Tryz.ntmps100;go_wp2_with fail;refine(bW B g P 3 _ (HG.out.ai ((ac.refl _).alloc (.cells #[Yq ⟨#[]⟩,Yq ⟨#[35,32,99,10]⟩,Yq ⟨#[10,32,10]⟩] 9))) (by omega) (by omega) (by omega)).mono ?_;rintro e w2 ⟨r,rfl,hr,hG2,hk2⟩
 obtain⟨hb,hhb,hhs⟩:∃hb:ByteArray,(#[Yq ⟨#[]⟩,Yq ⟨#[35,32,99,10]⟩,Yq ⟨#[10,32,10]⟩]:Array Value)[r]?=Yz (Yq hb)/\hb.1.1=St.jZ r:=by
  rcases(show r=0\/r=1\/r=2 by omega)with h|h|h<;>subst h<;>exact⟨_,rfl,rfl⟩
 have Uh:hb.size<=4:=by
  rw[<-St.aB,hhs];unfold St.jZ;split;decide;split<;>decide
 have hcell:=gR w w2 _ _ B g hk2 kg hB r _ hhb;have HG2:=aa hG2;have gi:=aa (aN (((ac.refl w).alloc _).gb (Yz g)) hk2 (λ_ e=>.inl e));have la:=gi.out.size;haveI:af w.1.size w2:=af.of (cS _ _ hcell);have hr3:r<3:=by omega
 obtain⟨h,hh⟩:∃h,h=r:=⟨_,rfl⟩;clear hG2 hk2 HG hhb;go_wp2_with fail;refine(bW B g _ ((n:Int)+1) _ HG2.out (by omega) (by omega) (by omega)).mono ?_;rintro e w3 ⟨m,rfl,hm,hG3,hk3⟩;have iG:=aa hG3;have fL:=aa (aN gi.out hk3 (λ_ e=>.inl e));clear hG3 hk3 HG2 gi hcell;rw[<-hh]at hhs hr3;clear hh hr;go_wp2_with fail;go_loopw [7,9] (λs7 s9 wr=>SQ w B g P m h s7 s9 wr) (λ_ s9 _=>(intOf s9).toNat)
 case atStart=>exact⟨m,hb,[],rfl,rfl,by simp,by simp[hhs,St.bX],⟨(λx hx=>by cases hx),(λj u h=>by simp at h)⟩,by simp;omega,iG.out.le (by simp),fL.out⟩
 case round=>
  clear iG fL;obtain⟨i,data,us,rfl,rfl,hki,n9,hrs,hds,hG,hk⟩:=hrel;have HG:=aa hG;have HK:=aa hk;have Ah:=aa n9;have kV:=aa hrs;have DK:=hk.size;clear hG hk n9 hrs
  by_cases hi:0<i
  ·have z:(0:Int)<(i:Int):=by omega
   go_wp2_with fail;refine(Dl B g _ 5 _ HG.out (by omega) (by omega)).mono ?_;rintro e w4 ⟨v,f,rfl,ho,hgd,hfl,hft,hG4,hk4⟩;obtain⟨A4,c4,rfl,h41,h42,_⟩:=aW ho;have eS:=aa hG4;have dm:=aa (aN HK.out hk4 (λ_ e=>.inl e));have hit:=a7 ho rfl;have hbl:=λb off (e:A4=Yz ⟨b,off,Yy⟩)=>aD ho b (by subst e;rfl)
   have HIT:=aa hit;have pP:=aa hgd;clear hG4 hk4 ho hit hgd HG HK;go_wp2_with fail;obtain⟨uh,hgd2,hgd3⟩:=Ba (fmt:=2) pP.out;refine(um 2 (.inr (.inl rfl)) B g _ A4 f.length c4 f _ eS.out (by omega) rfl HIT.out (λb off e=>by have:=hbl b off e;omega) (by omega) (by omega) uh hgd2 hgd3).mono ?_;rintro e w5 ⟨raw,rfl,hR,Gj,gl,hk5⟩;have de:=aa (aN dm.out hk5 (λ_ e=>.inl e));have ld:=aa hR;obtain⟨Q,hQ,gl⟩:∃Q,Q+1<=P+2+300*(us.length+1)/\bp w5 B g Q:=⟨_,by omega,gl⟩;have Wn:Q<=1000000:=by omega
   have jS:=aa gl;obtain⟨dg,hdg⟩:∃dg:ByteArray,(⟨(Lib.decDigits i).toArray⟩:ByteArray)=dg:=⟨_,rfl⟩;have XO:dg.size=1:=by rw[<-hdg];exact JW (by omega)
   clear gl hk5 eS dm hR HIT pP hbl uh hgd2 hgd3;go_wp2_with fail;refine(qz i w5 (by omega)).mono ?_;rintro e w6 ⟨rfl,dQ⟩;rw[hdg];have qT:=aa (jS.out.ai dQ);have dS:=aa (bO de.out dQ);clear dQ jS de;go_wp2_with fail;refine(bW B g Q 3 _ (qT.out.ai ((ac.refl _).alloc (.cells #[Yq ⟨#[]⟩,Yq ⟨#[35,120,10]⟩,Yq ⟨#[10]⟩] 9))) (by omega) (by omega) (by omega)).mono ?_;rintro e w7 ⟨r,rfl,hr,hG7,hk7⟩
   obtain⟨tb,fT,hts⟩:∃tb:ByteArray,(#[Yq ⟨#[]⟩,Yq ⟨#[35,120,10]⟩,Yq ⟨#[10]⟩]:Array Value)[r]?=Yz (Yq tb)/\tb=⟨(St.oA r).toArray⟩:=by
    rcases(show r=0\/r=1\/r=2 by omega)with h|h|h<;>subst h<;>exact⟨_,rfl,rfl⟩
   have Q7:=qT.out.lt;have hcell:=gR w6 w7 _ _ B g hk7 Q7.1 Q7.2 r _ fT;have xg:=aa hG7;have mJ:=aa (aN (bO dS.out ((ac.refl _).alloc _)) hk7 (λ_ e=>.inl e));have MU:=hk7.size;haveI:af w6.1.size w7:=af.of (cS _ _ hcell);have x9:tb.size<=3:=by rw[hts];exact NI r
   have Vk:r<3:=by omega
   have sW:=aa hts;have VH:=aa hdg;clear hG7 hk7 qT dS fT hts hdg;go_wp2;obtain⟨u,hu⟩:∃u:St.Wu,u=⟨St.iY i++[61],St.iY i,raw.1.1,10 :: St.oA r⟩:=⟨_,rfl⟩;refine⟨⟨i-1,_,us++[u],rfl,congrArg (Yp Yv) (by omega),by simp;omega,?_,⟨?_,St.wR kV.out.2 ⟨r,Vk,?_⟩⟩,?_,xg.out.le (by rw[List.length_append,List.length_singleton];omega),mJ.out⟩,by simp[intOf];omega⟩
   ·rw[St.qE,<-List.append_assoc,<-Ah.out,hu,sW.out,<-VH.out];simp[St.iY]
   ·intro v hv;rcases List.mem_append.1 hv with hv|hv
    ·exact kV.out.1 v hv
    simp at hv;subst hv;subst hu;exact ld.out
   ·subst hu;rw[show m-us.length=i by omega];exact⟨rfl,rfl,rfl⟩
   rw[List.length_append,List.length_singleton];simp only[ByteArray.size_append]
   show _+(1+_+1+_+1+_)<=_
   omega
  have z:¬(0:Int)<(i:Int):=by omega
  have hlen:us.length=m:=by omega
  go_wp2;go_ret;exact⟨data,rfl,⟨St.jZ h,us,Ah.out,.inr (.inl ⟨rfl,⟨h,hr3,rfl⟩,by omega,by rw[hlen];exact kV.out.2⟩),by omega,kV.out.1⟩,by omega,HG.out.le (by omega),HK.out⟩
end
section
def eH(au:Nat):ByteArray:=⟨(St.jz au).toArray⟩
def iv(au:Nat):ByteArray:=⟨(St.iM au).toArray⟩
theorem nf(au:Nat):(eH au).size<=2:=by unfold eH St.jz;split;decide;split<;>decide
theorem lI(au:Nat):(iv au).size<=4:=by unfold iv St.iM;split;decide;split<;>decide
def SR(w:YA)(B g P n au:Nat)(s7 s9:Value)(wr:YA):Prop:=
 ∃(i k:Nat) (data:ByteArray) (us:List St.Wu),s7=Yq data/\s9=Yp Yv i/\k+i<=n/\data.1.1=St.mn au++St.bX us/\us.length=k/\((∀u∈us,∃f qs c,St.jC 3 f u.r qs c/\f.length<=10/\aY f<=115)/\∀j u,us[j]?=Yz u->St.FW Lib.decDigits au j u)/\data.size<=12+5010*k/\bp wr B g (P+2+300*k)/\w.grownBy wr (Yz g)
def Rh(data raw:ByteArray)(au:Nat):List ef:=[
 λv _=>v=Yq data,
 λv W=>∃b,v=Yr (Yz ⟨b,0,Yy⟩) 3 3/\b<W.1.size/\∀r,r<3->W.cell? ⟨b,r,Yy⟩=Yz (Yq (Vv r)),
 λv _=>v=Yp Yv au,
 λv W=>∃b,v=Yt (Yz ⟨b,au,Yy⟩)/\b<W.1.size/\W.cell? ⟨b,au,Yy⟩=Yz (Yq (eH au)),
 λv _=>v=Yq (eH au),
 λv _=>v=Yq ((⟨#[10]⟩:ByteArray)++eH au),
 λv _=>v=Yq ((⟨#[10]⟩:ByteArray)++eH au++(⟨#[34]⟩:ByteArray)),
 λv _=>v=Yq raw,
 λv _=>v=Yq ((⟨#[10]⟩:ByteArray)++eH au++(⟨#[34]⟩:ByteArray)++raw),
 λv _=>v=Yq ((⟨#[10]⟩:ByteArray)++eH au++(⟨#[34]⟩:ByteArray)++raw++(⟨#[34]⟩:ByteArray)),
 λv W=>∃b,v=Yr (Yz ⟨b,0,Yy⟩) 3 3/\b<W.1.size/\∀r,r<3->W.cell? ⟨b,r,Yy⟩=Yz (Yq (To r)),
 λv _=>v=Yp Yv au,
 λv W=>∃b,v=Yt (Yz ⟨b,au,Yy⟩)/\b<W.1.size/\W.cell? ⟨b,au,Yy⟩=Yz (Yq (iv au)),
 λv _=>v=Yq (iv au),
 λv _=>v=Yq ((⟨#[10]⟩:ByteArray)++eH au++(⟨#[34]⟩:ByteArray)++raw++(⟨#[34]⟩:ByteArray)++iv au),
 λv _=>v=Yq (data++((⟨#[10]⟩:ByteArray)++eH au++(⟨#[34]⟩:ByteArray)++raw++(⟨#[34]⟩:ByteArray)++iv au)),
 λv _=>v=Yq (data++((⟨#[10]⟩:ByteArray)++eH au++(⟨#[34]⟩:ByteArray)++raw++(⟨#[34]⟩:ByteArray)++iv au))]
theorem Im(B g P n:Nat)(w:YA)(hG:bp w B g P)(hP:P<=10000)(hn:n<=10) :
  Calls Tryz.prog 100 #[Yt (Yz ⟨g,0,Yy⟩),Yp Yv 3,Yp Yv n] w λe w'=>∃data:ByteArray,e=Yx (Yq data)/\Cg 3 n data/\data.size<=12+5010*n/\bp w' B g (P+2+300*n)/\w.grownBy w' (Yz g):=by
 have HG:=aa hG;obtain⟨kg,hB⟩:=hG.lt;clear hG;go_enter Tryz.func100,Tryz.ntmps100;go_wp2_with fail;refine(bW B g P 3 _ (HG.out.ai ((ac.refl _).alloc (.cells #[Yq ⟨#[116,101,120,116]⟩,Yq ⟨#[105,100,44,116,101,120,116]⟩,Yq ⟨#[34,97,44,98,34,44,116,101,120,116,44,99]⟩] 9))) (by omega) (by omega) (by omega)).mono ?_;rintro e w2 ⟨r,rfl,hr,hG2,hk2⟩
 obtain⟨hb,hhb,hhs,hhq⟩:∃hb:ByteArray,(#[Yq ⟨#[116,101,120,116]⟩,Yq ⟨#[105,100,44,116,101,120,116]⟩,Yq ⟨#[34,97,44,98,34,44,116,101,120,116,44,99]⟩]:Array Value)[r]?=Yz (Yq hb)/\hb.1.1=St.mn r/\((hb.size:Int) / 6=r):=by
  rcases(show r=0\/r=1\/r=2 by omega)with h|h|h<;>subst h<;>exact⟨_,rfl,rfl,rfl⟩
 have Uh:hb.size<=12:=by
  rw[<-St.aB,hhs];unfold St.mn;split;decide;split<;>decide
 have hcell:=gR w w2 _ _ B g hk2 kg hB r _ hhb;have HG2:=aa hG2;have gi:=aa (aN (((ac.refl w).alloc _).gb (Yz g)) hk2 (λ_ e=>.inl e));have la:=gi.out.size;haveI:af w.1.size w2:=af.of (cS _ _ hcell);have hr3:r<3:=by omega
 obtain⟨au,hcol⟩:∃au,au=r:=⟨_,rfl⟩;clear hG2 hk2 HG hhb;go_wp2_with fail;refine(bW B g _ ((n:Int)+1) _ HG2.out (by omega) (by omega) (by omega)).mono ?_;rintro e w3 ⟨m,rfl,hm,hG3,hk3⟩;have iG:=aa hG3;have fL:=aa (aN gi.out hk3 (λ_ e=>.inl e));clear hG3 hk3 HG2 gi hcell;rw[<-hcol]at hhs hr3 |-;clear hcol hr;go_wp2_with fail;go_loopw [7,9] (λs7 s9 wr=>SR w B g P n au s7 s9 wr) (λ_ s9 _=>(intOf s9).toNat)
 case atStart=>exact⟨m,0,hb,[],rfl,rfl,by omega,by simp[hhs,St.bX],rfl,⟨(λx hx=>by cases hx),(λj u h=>by simp at h)⟩,by omega,iG.out.le (by omega),fL.out⟩
 case round=>
  clear iG fL;obtain⟨i,k,data,us,rfl,rfl,hki,n9,hrl,hrs,hds,hG,hk⟩:=hrel;have HG:=aa hG;have HK:=aa hk;have Ah:=aa n9;have Oe:=aa hrl;have kV:=aa hrs;have DK:=hk.size;clear hG hk n9 hrl hrs
  by_cases hi:0<i
  ·have z:(0:Int)<(i:Int):=by omega
   go_wp2_with fail;refine(Dl B g _ 5 _ HG.out (by omega) (by omega)).mono ?_;rintro e w4 ⟨v,f,rfl,ho,hgd,hfl,hft,hG4,hk4⟩;obtain⟨A4,c4,rfl,h41,h42,_⟩:=aW ho;have eS:=aa hG4;have dm:=aa (aN HK.out hk4 (λ_ e=>.inl e));have hit:=a7 ho rfl;have hbl:=λb off (e:A4=Yz ⟨b,off,Yy⟩)=>aD ho b (by subst e;rfl)
   have HIT:=aa hit;have pP:=aa hgd;clear hG4 hk4 ho hit hgd HG HK;go_wp2_with fail;obtain⟨uh,hgd2,hgd3⟩:=Ba (fmt:=3) pP.out;refine(um 3 (.inr (.inr rfl)) B g _ A4 f.length c4 f _ eS.out (by omega) rfl HIT.out (λb off e=>by have:=hbl b off e;omega) (by omega) (by omega) uh hgd2 hgd3).mono ?_;rintro e w5 ⟨raw,rfl,hR,Gj,gl,hk5⟩;have gl:=gl.le (show _<=P+2+300*(k+1)by omega);have jS:=aa gl;have de:=aa (aN dm.out hk5 (λ_ e=>.inl e));have ld:=aa hR;clear gl hk5 eS dm hR HIT pP hbl uh hgd2 hgd3;go_wp2_with fail;refine bZ (λa b=>ac a b) (λ_ _=>True) (Rh data raw au) ac.refl (λa b c h k=>ac.trans h k) (by kernel_rfl) (by rfl) (by kernel_rfl) (by kernel_rfl) ?frD ?hfr ?hI ?hob ?hend
   case hfr=>
    intro ρ;simp only[cf,Act.put,ax,aw,ay,Nat.zero_add,Nat.reduceAdd];exact rfl
   case hI=>trivial
   case hob=>
    unfold Rh;refine aq.cons (λρ L W hR hI hL hD hO hF K hK=>?_) ?_
    ·have eo:ρ 16=Yq data:=hO 16 _ 7 rfl rfl (hD.not (p:=16) rfl (by decide) hL);clear hF hD hO hI hL hR;simp only[Act.put,ax,aw,ay]at hK |-;rw[eo]at hK |-;go_simp;refine hK _ _ (ac.refl _) trivial (λW2 h2=>?_);rfl
    refine aq.cons (λρ L W hR hI hL hD hO hF K hK=>?_) ?_
    ·clear hF hD hO hI hL hR;simp only[Act.put,ax,aw,ay]at hK |-;go_simp;refine hK _ _ ((ac.refl W).alloc _) trivial (λW2 h2=>⟨W.1.size,rfl,by have:=h2.size;simp at this;omega,λr hr=>?_⟩);rw[h2.cell (p:=⟨W.1.size,r,Yy⟩) (by simp),World.cell?_alloc_at _ _ _ _ rfl];rcases(show r=0\/r=1\/r=2 by omega)with h|h|h<;>subst h<;>rfl
    refine aq.cons (λρ L W hR hI hL hD hO hF K hK=>?_) ?_
    ·clear hF hD hO hI hL hR;simp only[Act.put,ax,aw,ay]at hK |-;go_simp;refine hK _ _ (ac.refl _) trivial (λW2 h2=>?_);rfl
    refine aq.cons (λρ L W hR hI hL hD hO hF K hK=>?_) ?_
    ·have f1:=ag hF (j:=1) (by decide);have f2:=ag hF (j:=2) (by decide);clear hF hD hO hI hL hR;simp only[Act.put,ax,aw,ay]at hK |-;obtain⟨b,e0,hb2,hc⟩:=f1;have e2:ρ 2=Yp Yv au:=f2;rw[e0,e2]at hK |-;have bS:au<3:=by omega
     have z1:((au:Nat):Int)<3:=by omega
     haveI:af b W:=af.of hb2;go_simp;refine hK _ _ (ac.refl _) trivial (λW2 h2=>?_);exact⟨b,rfl,Nat.lt_of_lt_of_le hb2 h2.size,(h2.cell hb2).trans (hc _ bS)⟩
    refine aq.cons (λρ L W hR hI hL hD hO hF K hK=>?_) ?_
    ·have f3:=ag hF (j:=3) (by decide);clear hF hD hO hI hL hR;simp only[Act.put,ax,aw,ay]at hK |-;obtain⟨b,e3,hb2,hc⟩:=f3;rw[e3]at hK |-;go_simp;refine hK _ _ (ac.refl _) trivial (λW2 h2=>?_);rfl
    refine aq.cons (λρ L W hR hI hL hD hO hF K hK=>?_) ?_
    ·have f4:=ag hF (j:=4) (by decide);clear hF hD hO hI hL hR;simp only[Act.put,ax,aw,ay]at hK |-;have e4:ρ 4=Yq (eH au):=f4;rw[e4]at hK |-;have h1:=nf au;have h2:=lI au;have y1:¬9223372036854775807<1+(eH au).size:=by omega
     go_simp;refine hK _ _ (ac.refl _) trivial (λW2 h2=>?_);rfl
    refine aq.cons (λρ L W hR hI hL hD hO hF K hK=>?_) ?_
    ·have f5:=ag hF (j:=5) (by decide);clear hF hD hO hI hL hR;simp only[Act.put,ax,aw,ay]at hK |-;have e5:ρ 5=Yq ((⟨#[10]⟩:ByteArray)++eH au):=f5;rw[e5]at hK |-;have h1:=nf au;have h2:=lI au;have y1:¬9223372036854775807<1+(eH au).size+1:=by omega
     go_simp;refine hK _ _ (ac.refl _) trivial (λW2 h2=>?_);rfl
    refine aq.cons (λρ L W hR hI hL hD hO hF K hK=>?_) ?_
    ·clear hF hD hO hI hL hR;simp only[Act.put,ax,aw,ay]at hK |-;go_simp;refine hK _ _ (ac.refl _) trivial (λW2 h2=>?_);rfl
    refine aq.cons (λρ L W hR hI hL hD hO hF K hK=>?_) ?_
    ·have f6:=ag hF (j:=6) (by decide);have f7:=ag hF (j:=7) (by decide);clear hF hD hO hI hL hR;simp only[Act.put,ax,aw,ay]at hK |-;have e6:ρ 6=Yq ((⟨#[10]⟩:ByteArray)++eH au++(⟨#[34]⟩:ByteArray)):=f6;have e7:ρ 7=Yq raw:=f7;rw[e6,e7]at hK |-;have h1:=nf au;have h2:=lI au;have y1:¬9223372036854775807<1+(eH au).size+1+raw.size:=by omega
     go_simp;refine hK _ _ (ac.refl _) trivial (λW2 h2=>?_);rfl
    refine aq.cons (λρ L W hR hI hL hD hO hF K hK=>?_) ?_
    ·have f8:=ag hF (j:=8) (by decide);clear hF hD hO hI hL hR;simp only[Act.put,ax,aw,ay]at hK |-;have e8:ρ 8=Yq ((⟨#[10]⟩:ByteArray)++eH au++(⟨#[34]⟩:ByteArray)++raw):=f8;rw[e8]at hK |-;have h1:=nf au;have h2:=lI au;have y1:¬9223372036854775807<1+(eH au).size+1+raw.size+1:=by omega
     go_simp;refine hK _ _ (ac.refl _) trivial (λW2 h2=>?_);rfl
    refine aq.cons (λρ L W hR hI hL hD hO hF K hK=>?_) ?_
    ·clear hF hD hO hI hL hR;simp only[Act.put,ax,aw,ay]at hK |-;go_simp;refine hK _ _ ((ac.refl W).alloc _) trivial (λW2 h2=>⟨W.1.size,rfl,by have:=h2.size;simp at this;omega,λr hr=>?_⟩);rw[h2.cell (p:=⟨W.1.size,r,Yy⟩) (by simp),World.cell?_alloc_at _ _ _ _ rfl];rcases(show r=0\/r=1\/r=2 by omega)with h|h|h<;>subst h<;>rfl
    refine aq.cons (λρ L W hR hI hL hD hO hF K hK=>?_) ?_
    ·clear hF hD hO hI hL hR;simp only[Act.put,ax,aw,ay]at hK |-;go_simp;refine hK _ _ (ac.refl _) trivial (λW2 h2=>?_);rfl
    refine aq.cons (λρ L W hR hI hL hD hO hF K hK=>?_) ?_
    ·have f10:=ag hF (j:=10) (by decide);have f11:=ag hF (j:=11) (by decide);clear hF hD hO hI hL hR;simp only[Act.put,ax,aw,ay]at hK |-;obtain⟨b,e0,hb2,hc⟩:=f10;have e2:ρ 11=Yp Yv au:=f11;rw[e0,e2]at hK |-;have bS:au<3:=by omega
     have z1:((au:Nat):Int)<3:=by omega
     haveI:af b W:=af.of hb2;go_simp;refine hK _ _ (ac.refl _) trivial (λW2 h2=>?_);exact⟨b,rfl,Nat.lt_of_lt_of_le hb2 h2.size,(h2.cell hb2).trans (hc _ bS)⟩
    refine aq.cons (λρ L W hR hI hL hD hO hF K hK=>?_) ?_
    ·have f12:=ag hF (j:=12) (by decide);clear hF hD hO hI hL hR;simp only[Act.put,ax,aw,ay]at hK |-;obtain⟨b,e3,hb2,hc⟩:=f12;rw[e3]at hK |-;go_simp;refine hK _ _ (ac.refl _) trivial (λW2 h2=>?_);rfl
    refine aq.cons (λρ L W hR hI hL hD hO hF K hK=>?_) ?_
    ·have f9:=ag hF (j:=9) (by decide);have f13:=ag hF (j:=13) (by decide);clear hF hD hO hI hL hR;simp only[Act.put,ax,aw,ay]at hK |-;have e9:ρ 9=Yq ((⟨#[10]⟩:ByteArray)++eH au++(⟨#[34]⟩:ByteArray)++raw++(⟨#[34]⟩:ByteArray)):=f9;have J1:ρ 13=Yq (iv au):=f13;rw[e9,J1]at hK |-;have h1:=nf au;have h2:=lI au;have y1:¬9223372036854775807<1+(eH au).size+1+raw.size+1+(iv au).size:=by omega
     go_simp;refine hK _ _ (ac.refl _) trivial (λW2 h2=>?_);rfl
    refine aq.cons (λρ L W hR hI hL hD hO hF K hK=>?_) ?_
    ·have f0:=ag hF (j:=0) (by decide);have f14:=ag hF (j:=14) (by decide);clear hF hD hO hI hL hR;simp only[Act.put,ax,aw,ay]at hK |-;have e0:ρ 0=Yq data:=f0;have Db:ρ 14=Yq ((⟨#[10]⟩:ByteArray)++eH au++(⟨#[34]⟩:ByteArray)++raw++(⟨#[34]⟩:ByteArray)++iv au):=f14;rw[e0,Db]at hK |-;have h1:=nf au;have h2:=lI au;have y1:¬9223372036854775807<data.size+(1+(eH au).size+1+raw.size+1+(iv au).size):=by omega
     go_simp;refine hK _ _ (ac.refl _) trivial (λW2 h2=>?_);rfl
    refine aq.cons (λρ L W hR hI hL hD hO hF K hK=>?_) ?_
    ·have f15:=ag hF (j:=15) (by decide);clear hF hD hO hI hL hR;simp only[Act.put,ax,aw,ay]at hK |-;have J2:ρ 15=Yq (data++((⟨#[10]⟩:ByteArray)++eH au++(⟨#[34]⟩:ByteArray)++raw++(⟨#[34]⟩:ByteArray)++iv au)):=f15;rw[J2]at hK |-;go_simp;refine hK _ _ (ac.refl _) trivial (λW2 h2=>?_);rfl
    exact aq.nil
   case hend=>
    intro ρ L W hR hI hL hF;obtain⟨_,_,_,_,_,_,_,_,_,_,_,_,_,_,_,_,  e16,_⟩:=hF;have e16:ρ 16=Yq (data++((⟨#[10]⟩:ByteArray)++eH au++(⟨#[34]⟩:ByteArray)++raw++(⟨#[34]⟩:ByteArray)++iv au)):=e16;clear hI hL;rw[e16];have dQ:=aa (bO de.out ((ac.refl _).drew.trans hR));have Ox:=aa (jS.out.ai ((ac.refl _).drew.trans hR));clear hR e16;go_wp2;obtain⟨u,hu⟩:∃u:St.Wu,u=⟨[10]++St.jz au++[34],Lib.decDigits (us.length+1),raw.1.1,34 :: St.iM au⟩:=⟨_,rfl⟩;refine⟨⟨i-1,k+1,_,us++[u],rfl,congrArg (Yp Yv) (by omega),by omega,?_,?_,⟨?_,St.wR kV.out.2 (by subst hu;exact⟨rfl,rfl,rfl⟩)⟩,?_,Ox.out.le (by omega),dQ.out⟩,by simp[intOf];omega⟩
    ·rw[St.qE,<-List.append_assoc,<-Ah.out,hu];simp[eH,iv]
    ·simp[Oe.out]
    ·intro v hv;rcases List.mem_append.1 hv with hv|hv
     ·exact kV.out.1 v hv
     simp at hv;subst hv;subst hu;exact ld.out
    have h1:=nf au;have h2:=lI au;simp only[ByteArray.size_append]
    show _+(1+_+1+_+1+_)<=_
    omega
  have z:¬(0:Int)<(i:Int):=by omega
  go_wp2;go_ret;exact⟨data,rfl,⟨St.mn au,us,Ah.out,.inr (.inr ⟨rfl,au,hr3,rfl,kV.out.2⟩),by rw[Oe.out];omega,kV.out.1⟩,by omega,HG.out.le (by omega),HK.out⟩
end
section
def fw(q:Nat):ByteArray:=⟨(St.oo q).toArray⟩
theorem jr(q:Nat):(fw q).size<=6:=by unfold fw St.oo;split<;>decide
def kB(r:Nat):ByteArray:=⟨(St.lq r).toArray⟩
theorem uQ(r:Nat):(kB r).size<=5:=by unfold kB St.lq;split;decide;split<;>decide
def SP(w:YA)(B g P m h:Nat)(s7 s9:Value)(wr:YA):Prop:=
 ∃(i:Nat) (data:ByteArray) (us:List St.Wu),s7=Yq data/\s9=Yp Yv i/\us.length+i=m/\data.1.1=St.jv h++St.bX us/\((∀u∈us,∃f qs c,St.jC 1 f u.r qs c/\f.length<=10/\aY f<=115)/\∀j u,us[j]?=Yz u->St.Om Lib.decDigits j u)/\data.size<=13+5040*us.length/\bp wr B g (P+2+400*us.length)/\w.grownBy wr (Yz g)
theorem Ik(B g P n:Nat)(w:YA)(hG:bp w B g P)(hP:P<=10000)(hn:n<=9) :
  Calls Tryz.prog 100 #[Yt (Yz ⟨g,0,Yy⟩),Yp Yv 1,Yp Yv n] w λe w'=>∃data:ByteArray,e=Yx (Yq data)/\Cg 1 n data/\data.size<=13+5040*n/\bp w' B g (P+2+400*n)/\w.grownBy w' (Yz g):=by
 have HG:=aa hG;obtain⟨kg,hB⟩:=hG.lt;clear hG;go_enter Tryz.func100,Tryz.ntmps100;go_wp2_with fail;refine(bW B g P 3 _ (HG.out.ai ((ac.refl _).alloc (.cells #[Yq ⟨#[]⟩,Yq ⟨#[60,104,116,109,108,62]⟩,Yq ⟨#[60,33,45,45,32,60,112,62,32,45,45,62,120]⟩] 9))) (by omega) (by omega) (by omega)).mono ?_;rintro e w2 ⟨r,rfl,hr,hG2,hk2⟩
 obtain⟨hb,hhb,hhs⟩:∃hb:ByteArray,(#[Yq ⟨#[]⟩,Yq ⟨#[60,104,116,109,108,62]⟩,Yq ⟨#[60,33,45,45,32,60,112,62,32,45,45,62,120]⟩]:Array Value)[r]?=Yz (Yq hb)/\hb.1.1=St.jv r:=by
  rcases(show r=0\/r=1\/r=2 by omega)with h|h|h<;>subst h<;>exact⟨_,rfl,rfl⟩
 have Uh:hb.size<=13:=by
  rw[<-St.aB,hhs];unfold St.jv;split;decide;split<;>decide
 have hcell:=gR w w2 _ _ B g hk2 kg hB r _ hhb;have HG2:=aa hG2;have gi:=aa (aN (((ac.refl w).alloc _).gb (Yz g)) hk2 (λ_ e=>.inl e));have la:=gi.out.size;haveI:af w.1.size w2:=af.of (cS _ _ hcell);have hr3:r<3:=by omega
 obtain⟨h,hh⟩:∃h,h=r:=⟨_,rfl⟩;clear hG2 hk2 HG hhb;go_wp2_with fail;refine(bW B g _ ((n:Int)+1) _ HG2.out (by omega) (by omega) (by omega)).mono ?_;rintro e w3 ⟨m,rfl,hm,hG3,hk3⟩;have iG:=aa hG3;have fL:=aa (aN gi.out hk3 (λ_ e=>.inl e));clear hG3 hk3 HG2 gi hcell;rw[<-hh]at hhs hr3;clear hh hr;go_wp2_with fail;go_loopw [7,9] (λs7 s9 wr=>SP w B g P m h s7 s9 wr) (λ_ s9 _=>(intOf s9).toNat)
 case atStart=>exact⟨m,hb,[],rfl,rfl,by simp,by simp[hhs,St.bX],⟨(λx hx=>by cases hx),(λj u h=>by simp at h)⟩,by simp;omega,iG.out.le (by simp),fL.out⟩
 case round=>
  clear iG fL;obtain⟨i,data,us,rfl,rfl,hki,n9,hrs,hds,hG,hk⟩:=hrel;have HG:=aa hG;have HK:=aa hk;have Ah:=aa n9;have kV:=aa hrs;have DK:=hk.size;clear hG hk n9 hrs
  by_cases hi:0<i
  ·have z:(0:Int)<(i:Int):=by omega
   go_wp2_with fail;refine(Kc B g _ 5 _ HG.out (by omega) (by omega)).mono ?_;rintro e w4 ⟨v,f,cc,rfl,ho,hgt,hfl,hft,hcn,hG4,hk4⟩;obtain⟨A4,c4,rfl,h41,h42,_⟩:=aW ho;obtain⟨uh,hgd2,hgd3⟩:=Kg hgt (by omega);have eS:=aa hG4;have dm:=aa (aN HK.out hk4 (λ_ e=>.inl e));have hit:=a7 ho rfl;have hbl:=λb off (e:A4=Yz ⟨b,off,Yy⟩)=>aD ho b (by subst e;rfl)
   have HIT:=aa hit;clear hG4 hk4 ho hit hgt HG HK;go_wp2_with fail;refine(um 1 (.inl rfl) B g _ A4 f.length c4 f _ eS.out (by omega) rfl HIT.out (λb off e=>by have:=hbl b off e;omega) (by omega) (by omega) uh hgd2 hgd3).mono ?_;rintro e w5 ⟨raw,rfl,hR,Gj,gl,hk5⟩;have de:=aa (aN dm.out hk5 (λ_ e=>.inl e));have ld:=aa hR;obtain⟨Q0,hQ,gl⟩:∃Q,Q+3<=P+2+400*(us.length+1)/\bp w5 B g Q:=⟨_,by omega,gl⟩;have Wn:Q0<=1000000:=by omega
   have jS:=aa gl;clear gl hk5 eS dm hR HIT hbl uh hgd2 hgd3;go_wp2_with fail;refine(bW B g Q0 3 _ (jS.out.ai ((ac.refl _).alloc (.cells #[Yq ⟨#[112]⟩,Yq ⟨#[108,105]⟩,Yq ⟨#[116,105,116,108,101]⟩] 9))) (by omega) (by omega) (by omega)).mono ?_;rintro e w7 ⟨ni,rfl,hni,hG7,hk7⟩
   obtain⟨nm,bh,hnms⟩:∃nm:ByteArray,(#[Yq ⟨#[112]⟩,Yq ⟨#[108,105]⟩,Yq ⟨#[116,105,116,108,101]⟩]:Array Value)[ni]?=Yz (Yq nm)/\nm.1.1=St.jx ni:=by
    rcases(show ni=0\/ni=1\/ni=2 by omega)with h|h|h<;>subst h<;>exact⟨_,rfl,rfl⟩
   have Q6:=jS.out.lt;have hcell:=gR w5 w7 _ _ B g hk7 Q6.1 Q6.2 ni _ bh;have hnz:nm.size<=5:=by rw[<-St.aB,hnms];unfold St.jx;split;decide;split<;>decide
   have mJ:=aa (aN (bO de.out ((ac.refl _).alloc _)) hk7 (λ_ e=>.inl e));obtain⟨Q,hQ,hG7⟩:∃Q,Q=Q0+1/\bp w7 B g Q:=⟨_,rfl,hG7⟩;have xg:=aa hG7;have MU:=hk7.size;haveI:af w5.1.size w7:=af.of (cS _ _ hcell);have UM:=aa hnms;clear hG7 hk7 jS de bh hnms;go_wp2_with fail;refine bZ (λa b=>a.grownBy b (Yz g)) (λL W=>bp W B g (Q+(if L 5 then 1 else 0)+(if L 18 then 1 else 0))) [λv _=>v=Yq data,λv _=>v=Yq nm,λv _=>v=Yq ((⟨#[60]⟩:ByteArray)++nm),λv W=>∃b,v=Yr (Yz ⟨b,0,Yy⟩) 2 2/\B<=b/\b<W.1.size/\∀r,r<2->W.cell? ⟨b,r,Yy⟩=Yz (Yq (fw r)),λv _=>v=Yt (Yz ⟨g,0,Yy⟩),λv _=>∃r:Nat,r<2/\v=Yp Yv r,λv W=>∃b r,r<2/\B<=b/\b<W.1.size/\v=Yt (Yz ⟨b,r,Yy⟩)/\W.cell? ⟨b,r,Yy⟩=Yz (Yq (fw r)),λv _=>∃r:Nat,r<2/\v=Yq (fw r),λv _=>∃q:Nat,q<2/\v=Yq ((⟨#[60]⟩:ByteArray)++nm++fw q),λv _=>∃q:Nat,q<2/\v=Yq ((⟨#[60]⟩:ByteArray)++nm++fw q++(⟨#[62]⟩:ByteArray)),λv _=>v=Yq raw,λv _=>∃q:Nat,q<2/\v=Yq ((⟨#[60]⟩:ByteArray)++nm++fw q++(⟨#[62]⟩:ByteArray)++raw),λv _=>∃q:Nat,q<2/\v=Yq ((⟨#[60]⟩:ByteArray)++nm++fw q++(⟨#[62]⟩:ByteArray)++raw++(⟨#[60,47]⟩:ByteArray)),λv _=>v=Yq nm,λv _=>∃q:Nat,q<2/\v=Yq ((⟨#[60]⟩:ByteArray)++nm++fw q++(⟨#[62]⟩:ByteArray)++raw++(⟨#[60,47]⟩:ByteArray)++nm),λv _=>∃q:Nat,q<2/\v=Yq ((⟨#[60]⟩:ByteArray)++nm++fw q++(⟨#[62]⟩:ByteArray)++raw++(⟨#[60,47]⟩:ByteArray)++nm++(⟨#[62]⟩:ByteArray)),λv W=>∃b,v=Yr (Yz ⟨b,0,Yy⟩) 3 3/\B<=b/\b<W.1.size/\∀r,r<3->W.cell? ⟨b,r,Yy⟩=Yz (Yq (kB r)),λv _=>v=Yt (Yz ⟨g,0,Yy⟩),λv _=>∃r:Nat,r<3/\v=Yp Yv r,λv W=>∃b r,r<3/\B<=b/\b<W.1.size/\v=Yt (Yz ⟨b,r,Yy⟩)/\W.cell? ⟨b,r,Yy⟩=Yz (Yq (kB r)),λv _=>∃r:Nat,r<3/\v=Yq (kB r),λv _=>∃q r:Nat,q<2/\r<3/\v=Yq ((⟨#[60]⟩:ByteArray)++nm++fw q++(⟨#[62]⟩:ByteArray)++raw++(⟨#[60,47]⟩:ByteArray)++nm++(⟨#[62]⟩:ByteArray)++kB r),λv _=>∃q r:Nat,q<2/\r<3/\v=Yq (data++((⟨#[60]⟩:ByteArray)++nm++fw q++(⟨#[62]⟩:ByteArray)++raw++(⟨#[60,47]⟩:ByteArray)++nm++(⟨#[62]⟩:ByteArray)++kB r)),λv _=>∃q r:Nat,q<2/\r<3/\v=Yq (data++((⟨#[60]⟩:ByteArray)++nm++fw q++(⟨#[62]⟩:ByteArray)++raw++(⟨#[60,47]⟩:ByteArray)++nm++(⟨#[62]⟩:ByteArray)++kB r))] (λa=>bC a _) (λa b c h k=>aN h k (λ_ e=>.inl e)) (by kernel_rfl) (by rfl) (by kernel_rfl) (by kernel_rfl) ?fr ?hfr ?hI ?hob ?hend
   case hfr=>
    intro ρ;simp only[cf,Act.put,ax,aw,ay,Nat.zero_add,Nat.reduceAdd];exact rfl
   case hI=>exact(xg.out.ai (by exact uZ)).le (by simp)
   case hob=>
    refine aq.cons (λρ L W hR hI hL hD hO hF K hK=>?_) ?_
    ·have ez:g<W.1.size:=Nat.lt_of_lt_of_le hI.lt.1 hI.lt.2;have fs:=hI.lt.2;have eo:ρ 23=Yq data:=hO 23 _ 7 rfl rfl (hD.not (p:=23) rfl (by decide) hL);clear hF hD hO;simp only[Act.put,ax,aw,ay]at hK |-;rw[eo]at hK |-;go_simp;refine hK _ _ (bC _ _) (by simpa[ar]using hI) (λW2 h2=>?_);rfl
    refine aq.cons (λρ L W hR hI hL hD hO hF K hK=>?_) ?_
    ·have ez:g<W.1.size:=Nat.lt_of_lt_of_le hI.lt.1 hI.lt.2;have fs:=hI.lt.2;clear hF hD hO;simp only[Act.put,ax,aw,ay]at hK |-;go_simp;refine hK _ _ (bC _ _) (by simpa[ar]using hI) (λW2 h2=>?_);rfl
    refine aq.cons (λρ L W hR hI hL hD hO hF K hK=>?_) ?_
    ·have ez:g<W.1.size:=Nat.lt_of_lt_of_le hI.lt.1 hI.lt.2;have fs:=hI.lt.2;have f1:=ag hF (j:=1) (by decide);clear hF hD hO;simp only[Act.put,ax,aw,ay]at hK |-;have e1:ρ 1=Yq nm:=f1;rw[e1]at hK |-;have y1:¬9223372036854775807<1+nm.size:=by omega
     go_simp;refine hK _ _ (bC _ _) (by simpa[ar]using hI) (λW2 h2=>?_);rfl
    refine aq.cons (λρ L W hR hI hL hD hO hF K hK=>?_) ?_
    ·have ez:g<W.1.size:=Nat.lt_of_lt_of_le hI.lt.1 hI.lt.2;have fs:=hI.lt.2;clear hF hD hO;simp only[Act.put,ax,aw,ay]at hK |-;go_simp;refine hK _ _ (((ac.refl W).alloc _).gb _) (by simpa[ar]using hI.ai ((ac.refl W).alloc _)) (λW2 h2=>⟨W.1.size,rfl,fs,by have:=h2.size;simp at this;omega,λr hr=>?_⟩);rw[dD h2 (p:=⟨W.1.size,r,Yy⟩) (by simp) (by simp;omega),World.cell?_alloc_at _ _ _ _ rfl];rcases(show r=0\/r=1 by omega)with h|h<;>subst h<;>rfl
    refine aq.cons (λρ L W hR hI hL hD hO hF K hK=>?_) ?_
    ·have ez:g<W.1.size:=Nat.lt_of_lt_of_le hI.lt.1 hI.lt.2;have fs:=hI.lt.2;clear hF hD hO;simp only[Act.put,ax,aw,ay]at hK |-;go_simp;refine hK _ _ (bC _ _) (by simpa[ar]using hI) (λW2 h2=>?_);rfl
    refine aq.cons (λρ L W hR hI hL hD hO hF K hK=>?_) ?_
    ·have ez:g<W.1.size:=Nat.lt_of_lt_of_le hI.lt.1 hI.lt.2;have fs:=hI.lt.2;have f4:=ag hF (j:=4) (by decide);clear hF hD hO;simp only[Act.put,ax,aw,ay]at hK |-;have e4:ρ 4=Yt (Yz ⟨g,0,Yy⟩):=f4;rw[e4]at hK |-;have Q8:bp W B g (Q+(if L 18 then 1 else 0)):=hI.le (by simp[hL]);refine oz (o:=⟨Yz 81,_,_,_,_,_⟩) rfl 64 #[Yt (Yz ⟨g,0,Yy⟩),Yp Yv 2] _ (bW B g (Q+(if L 18 then 1 else 0)) 2 W Q8 (by split<;>omega) (by omega) (by omega)) ?_ ?_
     ·go_simp
     rintro e W2 ⟨r,rfl,hr,hG2,hk⟩;exact⟨_,rfl,hK _ _ hk (hG2.le (by simp[ar];try omega)) (λW3 h3=>⟨r,by omega,rfl⟩)⟩
    refine aq.cons (λρ L W hR hI hL hD hO hF K hK=>?_) ?_
    ·have ez:g<W.1.size:=Nat.lt_of_lt_of_le hI.lt.1 hI.lt.2;have fs:=hI.lt.2;have f3:=ag hF (j:=3) (by decide);have f5:=ag hF (j:=5) (by decide);clear hF hD hO;simp only[Act.put,ax,aw,ay]at hK |-;obtain⟨b,e0,hb1,hb2,hc⟩:=f3;obtain⟨r,hr,e2⟩:=f5;rw[e0,e2]at hK |-;have z1:(r:Int)<2:=by omega
     haveI:af b W:=af.of hb2;go_simp;refine hK _ _ (bC _ _) (by simpa[ar]using hI) (λW2 h2=>?_);have hc2:=(dD h2 (p:=⟨b,r,Yy⟩) hb2 (by simp;omega)).trans (hc r hr);exact⟨b,r,hr,hb1,Nat.lt_of_lt_of_le hb2 h2.size,rfl,hc2⟩
    refine aq.cons (λρ L W hR hI hL hD hO hF K hK=>?_) ?_
    ·have ez:g<W.1.size:=Nat.lt_of_lt_of_le hI.lt.1 hI.lt.2;have fs:=hI.lt.2;have f6:=ag hF (j:=6) (by decide);clear hF hD hO;simp only[Act.put,ax,aw,ay]at hK |-;obtain⟨b,r,hr,hb1,hb2,e3,hc⟩:=f6;rw[e3]at hK |-;haveI:af b W:=af.of hb2;go_simp;refine hK _ _ (bC _ _) (by simpa[ar]using hI) (λW2 h2=>?_);exact⟨r,hr,rfl⟩
    refine aq.cons (λρ L W hR hI hL hD hO hF K hK=>?_) ?_
    ·have ez:g<W.1.size:=Nat.lt_of_lt_of_le hI.lt.1 hI.lt.2;have fs:=hI.lt.2;have f2:=ag hF (j:=2) (by decide);have f7:=ag hF (j:=7) (by decide);clear hF hD hO;simp only[Act.put,ax,aw,ay]at hK |-;have e2:ρ 2=Yq ((⟨#[60]⟩:ByteArray)++nm):=f2;obtain⟨q,hq,e7⟩:=f7;rw[e2,e7]at hK |-;have ru:=jr q;have y1:¬9223372036854775807<1+nm.size+(fw q).size:=by omega
     go_simp;refine hK _ _ (bC _ _) (by simpa[ar]using hI) (λW2 h2=>?_);exact⟨q,hq,rfl⟩
    refine aq.cons (λρ L W hR hI hL hD hO hF K hK=>?_) ?_
    ·have ez:g<W.1.size:=Nat.lt_of_lt_of_le hI.lt.1 hI.lt.2;have fs:=hI.lt.2;have f8:=ag hF (j:=8) (by decide);clear hF hD hO;simp only[Act.put,ax,aw,ay]at hK |-;obtain⟨q,hq,e8⟩:=f8;rw[e8]at hK |-;have ru:=jr q;have y1:¬9223372036854775807<1+nm.size+(fw q).size+1:=by omega
     go_simp;refine hK _ _ (bC _ _) (by simpa[ar]using hI) (λW2 h2=>?_);exact⟨q,hq,rfl⟩
    refine aq.cons (λρ L W hR hI hL hD hO hF K hK=>?_) ?_
    ·have ez:g<W.1.size:=Nat.lt_of_lt_of_le hI.lt.1 hI.lt.2;have fs:=hI.lt.2;clear hF hD hO;simp only[Act.put,ax,aw,ay]at hK |-;go_simp;refine hK _ _ (bC _ _) (by simpa[ar]using hI) (λW2 h2=>?_);rfl
    refine aq.cons (λρ L W hR hI hL hD hO hF K hK=>?_) ?_
    ·have ez:g<W.1.size:=Nat.lt_of_lt_of_le hI.lt.1 hI.lt.2;have fs:=hI.lt.2;have f9:=ag hF (j:=9) (by decide);have f10:=ag hF (j:=10) (by decide);clear hF hD hO;simp only[Act.put,ax,aw,ay]at hK |-;obtain⟨q,hq,e9⟩:=f9;have e10:ρ 10=Yq raw:=f10;rw[e9,e10]at hK |-;have ru:=jr q;have y1:¬9223372036854775807<1+nm.size+(fw q).size+1+raw.size:=by omega
     go_simp;refine hK _ _ (bC _ _) (by simpa[ar]using hI) (λW2 h2=>?_);exact⟨q,hq,rfl⟩
    refine aq.cons (λρ L W hR hI hL hD hO hF K hK=>?_) ?_
    ·have ez:g<W.1.size:=Nat.lt_of_lt_of_le hI.lt.1 hI.lt.2;have fs:=hI.lt.2;have f11:=ag hF (j:=11) (by decide);clear hF hD hO;simp only[Act.put,ax,aw,ay]at hK |-;obtain⟨q,hq,e11⟩:=f11;rw[e11]at hK |-;have ru:=jr q;have y1:¬9223372036854775807<1+nm.size+(fw q).size+1+raw.size+2:=by omega
     go_simp;refine hK _ _ (bC _ _) (by simpa[ar]using hI) (λW2 h2=>?_);exact⟨q,hq,rfl⟩
    refine aq.cons (λρ L W hR hI hL hD hO hF K hK=>?_) ?_
    ·have ez:g<W.1.size:=Nat.lt_of_lt_of_le hI.lt.1 hI.lt.2;have fs:=hI.lt.2;clear hF hD hO;simp only[Act.put,ax,aw,ay]at hK |-;go_simp;refine hK _ _ (bC _ _) (by simpa[ar]using hI) (λW2 h2=>?_);rfl
    refine aq.cons (λρ L W hR hI hL hD hO hF K hK=>?_) ?_
    ·have ez:g<W.1.size:=Nat.lt_of_lt_of_le hI.lt.1 hI.lt.2;have fs:=hI.lt.2;have f12:=ag hF (j:=12) (by decide);have f13:=ag hF (j:=13) (by decide);clear hF hD hO;simp only[Act.put,ax,aw,ay]at hK |-;obtain⟨q,hq,e12⟩:=f12;have J1:ρ 13=Yq nm:=f13;rw[e12,J1]at hK |-;have ru:=jr q;have y1:¬9223372036854775807<1+nm.size+(fw q).size+1+raw.size+2+nm.size:=by omega
     go_simp;refine hK _ _ (bC _ _) (by simpa[ar]using hI) (λW2 h2=>?_);exact⟨q,hq,rfl⟩
    refine aq.cons (λρ L W hR hI hL hD hO hF K hK=>?_) ?_
    ·have ez:g<W.1.size:=Nat.lt_of_lt_of_le hI.lt.1 hI.lt.2;have fs:=hI.lt.2;have f14:=ag hF (j:=14) (by decide);clear hF hD hO;simp only[Act.put,ax,aw,ay]at hK |-;obtain⟨q,hq,Db⟩:=f14;rw[Db]at hK |-;have ru:=jr q;have y1:¬9223372036854775807<1+nm.size+(fw q).size+1+raw.size+2+nm.size+1:=by omega
     go_simp;refine hK _ _ (bC _ _) (by simpa[ar]using hI) (λW2 h2=>?_);exact⟨q,hq,rfl⟩
    refine aq.cons (λρ L W hR hI hL hD hO hF K hK=>?_) ?_
    ·have ez:g<W.1.size:=Nat.lt_of_lt_of_le hI.lt.1 hI.lt.2;have fs:=hI.lt.2;clear hF hD hO;simp only[Act.put,ax,aw,ay]at hK |-;go_simp;refine hK _ _ (((ac.refl W).alloc _).gb _) (by simpa[ar]using hI.ai ((ac.refl W).alloc _)) (λW2 h2=>⟨W.1.size,rfl,fs,by have:=h2.size;simp at this;omega,λr hr=>?_⟩);rw[dD h2 (p:=⟨W.1.size,r,Yy⟩) (by simp) (by simp;omega),World.cell?_alloc_at _ _ _ _ rfl];rcases(show r=0\/r=1\/r=2 by omega)with h|h|h<;>subst h<;>rfl
    refine aq.cons (λρ L W hR hI hL hD hO hF K hK=>?_) ?_
    ·have ez:g<W.1.size:=Nat.lt_of_lt_of_le hI.lt.1 hI.lt.2;have fs:=hI.lt.2;clear hF hD hO;simp only[Act.put,ax,aw,ay]at hK |-;go_simp;refine hK _ _ (bC _ _) (by simpa[ar]using hI) (λW2 h2=>?_);rfl
    refine aq.cons (λρ L W hR hI hL hD hO hF K hK=>?_) ?_
    ·have ez:g<W.1.size:=Nat.lt_of_lt_of_le hI.lt.1 hI.lt.2;have fs:=hI.lt.2;have f17:=ag hF (j:=17) (by decide);clear hF hD hO;simp only[Act.put,ax,aw,ay]at hK |-;have e17:ρ 17=Yt (Yz ⟨g,0,Yy⟩):=f17;rw[e17]at hK |-;have Q8:bp W B g (Q+(if L 5 then 1 else 0)):=hI.le (by simp[hL]);refine oz (o:=⟨Yz 94,_,_,_,_,_⟩) rfl 64 #[Yt (Yz ⟨g,0,Yy⟩),Yp Yv 3] _ (bW B g (Q+(if L 5 then 1 else 0)) 3 W Q8 (by split<;>omega) (by omega) (by omega)) ?_ ?_
     ·go_simp
     rintro e W2 ⟨r,rfl,hr,hG2,hk⟩;exact⟨_,rfl,hK _ _ hk (hG2.le (by simp[ar];try omega)) (λW3 h3=>⟨r,by omega,rfl⟩)⟩
    refine aq.cons (λρ L W hR hI hL hD hO hF K hK=>?_) ?_
    ·have ez:g<W.1.size:=Nat.lt_of_lt_of_le hI.lt.1 hI.lt.2;have fs:=hI.lt.2;have f16:=ag hF (j:=16) (by decide);have f18:=ag hF (j:=18) (by decide);clear hF hD hO;simp only[Act.put,ax,aw,ay]at hK |-;obtain⟨b,e0,hb1,hb2,hc⟩:=f16;obtain⟨r,hr,e2⟩:=f18;rw[e0,e2]at hK |-;have z1:(r:Int)<3:=by omega
     haveI:af b W:=af.of hb2;go_simp;refine hK _ _ (bC _ _) (by simpa[ar]using hI) (λW2 h2=>?_);have hc2:=(dD h2 (p:=⟨b,r,Yy⟩) hb2 (by simp;omega)).trans (hc r hr);exact⟨b,r,hr,hb1,Nat.lt_of_lt_of_le hb2 h2.size,rfl,hc2⟩
    refine aq.cons (λρ L W hR hI hL hD hO hF K hK=>?_) ?_
    ·have ez:g<W.1.size:=Nat.lt_of_lt_of_le hI.lt.1 hI.lt.2;have fs:=hI.lt.2;have f19:=ag hF (j:=19) (by decide);clear hF hD hO;simp only[Act.put,ax,aw,ay]at hK |-;obtain⟨b,r,hr,hb1,hb2,e3,hc⟩:=f19;rw[e3]at hK |-;haveI:af b W:=af.of hb2;go_simp;refine hK _ _ (bC _ _) (by simpa[ar]using hI) (λW2 h2=>?_);exact⟨r,hr,rfl⟩
    refine aq.cons (λρ L W hR hI hL hD hO hF K hK=>?_) ?_
    ·have ez:g<W.1.size:=Nat.lt_of_lt_of_le hI.lt.1 hI.lt.2;have fs:=hI.lt.2;have f15:=ag hF (j:=15) (by decide);have f20:=ag hF (j:=20) (by decide);clear hF hD hO;simp only[Act.put,ax,aw,ay]at hK |-;obtain⟨q,hq,J2⟩:=f15;obtain⟨r,hr,e20⟩:=f20;rw[J2,e20]at hK |-;have ru:=jr q;have hbl:=uQ r;have y1:¬9223372036854775807<1+nm.size+(fw q).size+1+raw.size+2+nm.size+1+(kB r).size:=by omega
     go_simp;refine hK _ _ (bC _ _) (by simpa[ar]using hI) (λW2 h2=>?_);exact⟨q,r,hq,hr,rfl⟩
    refine aq.cons (λρ L W hR hI hL hD hO hF K hK=>?_) ?_
    ·have ez:g<W.1.size:=Nat.lt_of_lt_of_le hI.lt.1 hI.lt.2;have fs:=hI.lt.2;have f0:=ag hF (j:=0) (by decide);have f21:=ag hF (j:=21) (by decide);clear hF hD hO;simp only[Act.put,ax,aw,ay]at hK |-;have e0:ρ 0=Yq data:=f0;obtain⟨q,r,hq,hr,e21⟩:=f21;rw[e0,e21]at hK |-;have ru:=jr q;have hbl:=uQ r;have y1:¬9223372036854775807<data.size+(1+nm.size+(fw q).size+1+raw.size+2+nm.size+1+(kB r).size):=by omega
     go_simp;refine hK _ _ (bC _ _) (by simpa[ar]using hI) (λW2 h2=>?_);exact⟨q,r,hq,hr,rfl⟩
    refine aq.cons (λρ L W hR hI hL hD hO hF K hK=>?_) ?_
    ·have ez:g<W.1.size:=Nat.lt_of_lt_of_le hI.lt.1 hI.lt.2;have fs:=hI.lt.2;have f22:=ag hF (j:=22) (by decide);clear hF hD hO;simp only[Act.put,ax,aw,ay]at hK |-;obtain⟨q,r,hq,hr,e22⟩:=f22;rw[e22]at hK |-;go_simp;refine hK _ _ (bC _ _) (by simpa[ar]using hI) (λW2 h2=>?_);exact⟨q,r,hq,hr,rfl⟩
    exact aq.nil
   case hend=>
    intro ρ L W hR hI hL hF;obtain⟨_,_,_,_,_,_,_,_,_,_,_,_,_,_,_,_,_,_,_,_,_,_,_,⟨q,r,hq,hr,g23⟩,_⟩:=hF;have T7:bp W B g (Q+2):=hI.le (by split<;>split<;>omega);have Qp:=aa T7;have mK:=aa (aN (bO mJ.out (show ac w7 w7.drew from(ac.refl _).drew)) hR (λ_ e=>.inl e));have ru:=jr q;have hbl:=uQ r;clear hI hR hL T7 mJ xg;rw[g23];clear g23;go_wp2;obtain⟨u,hu⟩:∃u:St.Wu,u=⟨[60]++(St.jx ni++St.oo q)++[62],Lib.decDigits (us.length+1),raw.1.1,St.dn (St.jx ni)++St.lq r⟩:=⟨_,rfl⟩;refine⟨⟨i-1,_,us++[u],rfl,congrArg (Yp Yv) (by omega),by simp;omega,?_,⟨?_,St.wR kV.out.2 (by subst hu;exact⟨ni,q,r,hr,rfl,rfl,rfl⟩)⟩,?_,Qp.out.le (by rw[List.length_append,List.length_singleton];omega),mK.out⟩,by simp[intOf];omega⟩
    ·rw[St.qE,<-List.append_assoc,<-Ah.out,hu];simp[fw,kB,UM.out,St.dn]
    ·intro v hv;rcases List.mem_append.1 hv with hv|hv
     ·exact kV.out.1 v hv
     simp at hv;subst hv;subst hu;exact ld.out
    rw[List.length_append,List.length_singleton];simp only[ByteArray.size_append]
    show _+(1+_+_+1+_+2+_+1+_)<=_
    omega
  have z:¬(0:Int)<(i:Int):=by omega
  have hlen:us.length=m:=by omega
  go_wp2;go_ret;exact⟨data,rfl,⟨St.jv h,us,Ah.out,.inl ⟨rfl,⟨h,hr3,rfl⟩,kV.out.2⟩,by omega,kV.out.1⟩,by omega,HG.out.le (by omega),HK.out⟩
end
