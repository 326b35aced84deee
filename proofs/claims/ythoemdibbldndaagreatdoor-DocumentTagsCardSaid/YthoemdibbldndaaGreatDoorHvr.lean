/- The contracts of the makers longer and Raws at any format: pieces, each in a form of its. -/
import Derived.Test.YthoemdibbldndaaGreatDoorHvd
set_option linter.all false
set_option maxHeartbeats 0
set_option maxRecDepth 20000
open Go.Value renaming int->UM,string->UN,slice->UO,pointer->UQ
open Go.IntKind renaming i64->US
open Go.Ending renaming returned->UU
open Option renaming none->UW,some->UX
open Go renaming World->UY
namespace Go.Proofs.YthoemdibbldndaaGreatDoor
open Go.RowKit
section
theorem Hq(fmt:Int)(hk:fmt=1\/fmt=2\/fmt=3)(B g P:Nat)(p:St.It)(w:UY)(hG:bK w B g P)(hP:P<=1000000)(hu:(St.aH fmt p).length<=1000000) :
  Calls Tryz.prog 175 #[UQ (UX ⟨g,0,UW⟩),UM US fmt,.agg #[UM US p.1,UN ⟨p.2.1.toArray⟩,UM US p.2.2],UN ⟨(St.aH fmt p).toArray⟩] w λe w'=>∃b:List UInt8,e=UU (UN ⟨b.toArray⟩)/\St.jy fmt p b/\bK w' B g (P+1)/\w.grownBy w' (UX g):=by
 obtain⟨k,x,i⟩:=p;have fin:∀(W:UY) (b:List UInt8),ac w W->St.jy fmt (k,x,i) b->∃b':List UInt8,Ending.returned (UN ⟨b.toArray⟩)=UU (UN ⟨b'.toArray⟩)/\St.jy fmt (k,x,i) b'/\bK W B g (P+1)/\w.grownBy W (UX g):=λW b hW hb=>⟨b,rfl,hb,(hG.ai hW).le (by omega),hW.gb _⟩
 have gF:=aa fin;have HG:=aa hG;obtain⟨kw,hB⟩:=hG.lt;clear fin hG;simp only at hu |-;rcases hk with rfl|rfl|rfl
 ·have FU:=aa (λW (hW:ac w W)=>gF.out W _ hW (.inl rfl));have Lt:=jw ⟨x.toArray⟩ [62];have Ew:=jw ⟨x.toArray⟩ [125];have hxl:((⟨x.toArray⟩:ByteArray).1.1)=x:=by simp
  rw[hxl]at Lt Ew
  by_cases h3:x=[62]
  ·subst h3;clear Lt Ew hxl
   by_cases hk1:k=1
   ·subst hk1;generalize(⟨(St.aH 1 (1,[62],i)).toArray⟩:ByteArray)=uu at *;go_enter Tryz.func175,Tryz.ntmps175;go_wp2;go_ret;exact gF.out _ [38,103,116,59] (uZ) (.inr (.inl ⟨rfl,rfl,.inl ⟨rfl,rfl⟩⟩))
   have q2:(k==1)=false:=by simpa using hk1
   clear hk1;generalize(⟨(St.aH 1 (k,[62],i)).toArray⟩:ByteArray)=uu at *;go_enter Tryz.func175,Tryz.ntmps175;go_wp2;go_ret;exact FU.out _ (uZ)
  by_cases h4:x=[125]
  ·subst h4;clear Lt Ew hxl h3
   by_cases hk1:k=1
   ·subst hk1;generalize(⟨(St.aH 1 (1,[125],i)).toArray⟩:ByteArray)=uu at *;go_enter Tryz.func175,Tryz.ntmps175;go_wp2;go_ret;exact gF.out _ [38,114,98,59] (uZ) (.inr (.inl ⟨rfl,rfl,.inr ⟨rfl,rfl⟩⟩))
   have q2:(k==1)=false:=by simpa using hk1
   clear hk1;generalize(⟨(St.aH 1 (k,[125],i)).toArray⟩:ByteArray)=uu at *;go_enter Tryz.func175,Tryz.ntmps175;go_wp2;go_ret;exact FU.out _ (uZ)
  rw[decide_eq_false h3]at Lt;rw[decide_eq_false h4]at Ew;generalize(⟨(St.aH 1 (k,x,i)).toArray⟩:ByteArray)=uu at *;generalize(⟨x.toArray⟩:ByteArray)=s at *;clear h3 h4 hxl;go_enter Tryz.func175,Tryz.ntmps175;go_wp2;go_ret;exact FU.out _ (uZ)
 ·by_cases hx:k=1/\x=[32]
  ·obtain⟨rfl,rfl⟩:=hx;generalize(⟨(St.aH 2 (1,[32],i)).toArray⟩:ByteArray)=uu at *;go_enter Tryz.func175,Tryz.ntmps175;go_wp2;go_ret;exact gF.out _ [92,115] (uZ) (.inr (.inr ⟨rfl,.inl ⟨rfl,rfl,rfl⟩⟩))
  refine(Fu B g P k x i (St.aH 2 (k,x,i)) w HG.out hP hu hx).mono ?_;rintro e w' ⟨r,hr,rfl,h1,h2⟩;exact⟨_,rfl,.inr (.inr ⟨rfl,.inr ⟨r,hr,rfl⟩⟩),h1,h2⟩
 have FU:=aa (λW (hW:ac w W)=>gF.out W _ hW (.inl rfl));generalize(⟨(St.aH 3 (k,x,i)).toArray⟩:ByteArray)=uu at *;generalize(⟨x.toArray⟩:ByteArray)=s;go_enter Tryz.func175,Tryz.ntmps175;go_wp2;go_ret;exact FU.out _ (uZ)
theorem Ks{fmt:Int}{f:List St.It}{p:St.It}(h:St.lv fmt f)(hp:p∈St.aN f):St.bj fmt [p]=(St.aH fmt p,0):=by
 have hx:=h.Kr p hp;have hg:=St.pq (fmt:=fmt) hx
 have h0:p.1=1->p.2.2=0:=λh1=>by
  rcases hx.1 with⟨c,rfl⟩|⟨t,rfl,_⟩|⟨t,i,rfl|rfl,_⟩|⟨t,i,rfl,_⟩
  ·rfl
  all_goals exact absurd h1 (by simp)
 have hs:=St.sM [p] λq hq h1=>by
  simp at hq;subst hq;exact⟨hg.2 h1,h0 h1⟩
 have hold:St.lv fmt [p]:=by
  refine⟨?_,λx Tl=>?_,List.pairwise_singleton _ _⟩
  ·show St.bH [p]=[p]
   unfold St.bH;rw[List.foldl_cons,List.foldl_nil,St.ek]
   split
   ·rename_i h1
    rw[if_neg (by intro e;have:=hg.2 h1;rw[e]at this;simp at this)];obtain⟨k,t,i⟩:=p;simp only at h0 h1;rw[h1,h0 h1]
   rfl
  obtain⟨hm,hn⟩:=List.mem_filter.1 Tl;simp at hm;subst hm;exact h.items _ (by rw[<-St.mn];exact List.mem_filter.2 ⟨hp,hn⟩)
 have:=hold.enc (by simp) (by
  simp only[St.ay,St.a7,List.map_cons,List.map_nil,List.sum_cons,List.sum_nil]
  split
  ·rename_i h1;have:=hg.2 h1;omega
  omega)
 rw[this,hs];simp
def Ep(w:UY)(fmt:Int)(B g P:Nat)(f:List St.It)(s7 s8:Value)(wr:UY):Prop:=
 ∃(i:Nat) (raw:ByteArray) (ps:List (List UInt8 × St.It)),i<=St.ay f/\s8=UM US i/\s7=UN raw/\raw.1.1=St.bt ps/\St.eV ps=(St.aN f).take i/\(∀p∈ps,St.jy fmt p.2 p.1)/\raw.size<=40*i/\bK wr B g (P+2*i)/\w.grownBy wr (UX g)
theorem sE(fmt:Int)(LD:fmt=1\/fmt=2\/fmt=3)(B g P:Nat)(A:Option Addr)(n c:Nat)(f:List St.It)(w:UY)(hG:bK w B g P)(hP:P<=100000)(hn:f.length=n)(h:aO w A f)(hne:∀b off,A=UX ⟨b,off,UW⟩->b≠g)
  (hl:n<=10) (ht:bc f<=115) (fG:St.lv fmt f) (hok:∃q,St.dY (St.aN f) [] 0=UX ([],q)) (OB:∀x∈St.gE f,x.2.1.length<=24) :
  Calls Tryz.prog 133 #[UQ (UX ⟨g,0,UW⟩),UM US fmt,UO A n c] w λe w'=>∃raw:ByteArray,e=UU (UN raw)/\(∃f ps q,St.la fmt f raw.1.1 ps q/\f.length<=10/\bc f<=115)/\raw.size<=5000/\bK w' B g (P+250)/\w.grownBy w' (UX g):=by
 have HG:=aa hG;have H:=aa h;have HN:=aa hn;have lq:=aa hne;have oP:=aa fG;have C5:=aa OB;have u6:=aa hok;obtain⟨kw,hB⟩:=hG.lt;have hll:St.ay f<=125:=by have:=jb f;omega
 clear hG h hn hne fG OB hok;go_enter Tryz.func133,Tryz.ntmps133;go_wp2_with fail;go_loopw [7,8] (λs7 s8 wr=>Ep w fmt B g P f s7 s8 wr) (λ_ s8 _=>St.ay f+1-(intOf s8).toNat)
 case atStart=>exact⟨0,⟨#[]⟩,[],by omega,rfl,rfl,rfl,rfl,(λp hp=>by cases hp),by show 0<=_;omega,HG.out,bi _ _⟩
 case round=>
  clear HG;obtain⟨i,raw,ps,hi,rfl,rfl,ov,hits,hform,hrs,hG,hk⟩:=hrel;have HG:=aa hG;have HK:=aa hk;have Ns:=aa ov;have HITS:=aa hits;have La:=aa hform;have hI:=Ia H.out hk lq.out;have HI:=aa hI;have hlen:=aa (kA A n c f wr HN.out hI (by omega) (by omega));have hsz:=hk.size;clear hG hk ov hits hform hI
  by_cases hlt:i<St.ay f
  ·have z1:(i:Int)<(St.ay f:Nat):=by omega
   have hpl:i<(St.aN f).length:=by rw[St.lm];exact hlt
   have hone:=St.yW i f 0 (St.mm oP.out.nm) (by omega) (by simpa using hpl);have hp0:=List.getElem_mem hpl;have hp1:=oP.out.Kr _ hp0;have hp2:=Ks oP.out hp0;have Hu:=λh1=>St.D4 C5.out hp0 h1
   have htk:(St.aN f).take (i+1)=(St.aN f).take i++[(St.aN f)[i]]:=by rw[List.take_add_one,List.getElem?_eq_getElem hpl];rfl
   simp only[Nat.sub_zero]at hone;have hsl:=FL A n c f i (i+1) wr HN.out HI.out (by omega) (by omega) (by omega) (by omega);rw[hone]at hsl;clear hp0;generalize(St.aN f)[i]=p at hone hp1 htk hsl hp2 Hu;have hp1:St.qB fmt p:=hp1
   have hpt:p.2.1.length<=24:=by
    by_cases h1:p.1=1
    ·rw[(St.pq hp1).2 h1];omega
    exact Hu h1
   have bA:=aa hsl;have hsz1:=λb (hb:St.jy fmt p b)=>(St.o6 hp1 Hu hb).1
   have hel:=(St.o6 (fmt:=fmt) hp1 Hu (.inl rfl)).2;have SG:=aa hsz1
   have Q8:∀(b:List UInt8),St.jy fmt p b->(raw++(⟨b.toArray⟩:ByteArray)).1.1=St.bt (ps++[(b,p)])/\St.eV (ps++[(b,p)])=(St.aN f).take (i+1)/\(∀q∈ps++[(b,p)],St.jy fmt q.2 q.1)/\(raw++(⟨b.toArray⟩:ByteArray)).size<=40*(i+1):=by
    intro b hb;refine⟨?_,?_,?_,?_⟩
    ·unfold St.bt;rw[List.flatMap_append];simp;rw[Ns.out];rfl
    ·rw[htk,<-HITS.out];simp[St.eV]
    ·intro q hq;rcases List.mem_append.1 hq with hq|hq
     ·exact La.out q hq
     simp at hq;subst hq;exact hb
    rw[ByteArray.size_append];have:=hsz1 b hb
    have:(⟨b.toArray⟩:ByteArray).size=b.length:=by show b.toArray.size=_;simp
    omega
   have Qv:=aa Q8;have rQ:(⟨(St.aH fmt p).toArray⟩:ByteArray).size=(St.aH fmt p).length:=by show(St.aH fmt p).toArray.size=_;simp
   clear hone hp1 htk hsl Q8 Hu hsz1;go_wp2_with fail;refine hlen.out.mono ?_;rintro e w2 ⟨rfl,rfl⟩;go_wp2_with fail;refine bA.out.mono ?_;rintro e w2 ⟨v,rfl,ho,hu2⟩;obtain⟨A2,c2,rfl,hc2,hc3,NS⟩:=aT ho;simp only[List.length_singleton]at ho hc2 |-;obtain⟨g2,rfl,hg2a,hg2,hg2c⟩:=fg ho (by omega);have q0:=hg2c 0 _ (show(av [p])[0]?=UX (UM US p.1)from rfl);have q1:=hg2c 1 _ (show(av [p])[1]?=UX (UN ⟨p.2.1.toArray⟩)from rfl);have q2:=hg2c 2 _ (show(av [p])[2]?=UX (UM US p.2.2)from rfl);have hit:=aX ho rfl;have henc:=CM fmt (UX ⟨g2,0,UW⟩) 1 c2 [p] w2 rfl hc2 (by unfold maxLen at hc3;omega) (λe=>by cases e) hit (by omega) (by simp[bc];omega);rw[hp2]at henc;have Nk:=aa henc;have iO:=aa (cm HK.out hu2);have HG2:=aa (HG.out.ai hu2);clear henc hit hg2c ho hu2 hlen bA HK HG hp2;go_wp2_with fail;refine Nk.out.mono ?_;rintro e w3 ⟨rfl,hu3⟩;have gu:=aa (cm iO.out hu3);have kk:=aa (HG2.out.ai hu3);have e0:=(hu3.cell hg2).trans q0;have e1:=(hu3.cell hg2).trans q1;have e2:=(hu3.cell hg2).trans q2;have J0:g2≠g:=by omega
   clear hu3 Nk iO HG2 q0 q1 q2;go_wp2_with fail;refine(cx B g _ 3 _ kk.out (by omega) (by omega) (by omega)).mono ?_;rintro e w4 ⟨r,rfl,hr,hG4,hk4⟩;have fx:=aa hG4;have dB:=aa (aW gu.out hk4 (λ_ e=>.inl e));have hg3:=cM _ _ e0;have d0:=(dd hk4 (p:=⟨g2,0,UW⟩) hg3 (by simpa using J0)).trans e0;have d1:=(dd hk4 (p:=⟨g2,1,UW⟩) hg3 (by simpa using J0)).trans e1;have d2:=(dd hk4 (p:=⟨g2,2,UW⟩) hg3 (by simpa using J0)).trans e2;haveI:af g2 w4:=af.of (cM _ _ d0);clear hG4 hk4 kk gu e0 e1 e2
   by_cases vI:r=0
   ·subst vI;go_wp2_with fail;refine(Hq fmt LD B g _ p _ fx.out (by omega) (by omega)).mono ?_;rintro e w5 ⟨b,rfl,hb,fV,hk5⟩;obtain⟨s1,s2,s3,s4⟩:=Qv.out b hb;have hbl:=SG.out b hb;have hbz:(⟨b.toArray⟩:ByteArray).size=b.length:=by show b.toArray.size=_;simp
    have HE:=aa (And.intro s1 (And.intro s2 (And.intro s3 (And.intro fV (aW dB.out hk5 (λ_ e=>.inl e))))));have y1:¬9223372036854775807<raw.size+b.length:=by omega
    clear s1 s2 s3 fV hk5 hb;go_wp2;exact⟨⟨i+1,_,_,by omega,congrArg (UM US) (by omega),rfl,HE.out.1,HE.out.2.1,HE.out.2.2.1,s4,HE.out.2.2.2.1.le (by omega),HE.out.2.2.2.2⟩,by simp[intOf];omega⟩
   have z2:((r:Int)==0)=false:=by simp;omega
   obtain⟨s1,s2,s3,s4⟩:=Qv.out (St.aH fmt p) (.inl rfl);have HE:=aa (And.intro s1 (And.intro s2 s3));have y1:¬9223372036854775807<raw.size+(St.aH fmt p).length:=by omega
   clear s1 s2 s3 vI;go_wp2;exact⟨⟨i+1,_,_,by omega,congrArg (UM US) (by omega),rfl,HE.out.1,HE.out.2.1,HE.out.2.2,s4,fx.out.le (by omega),dB.out⟩,by simp[intOf];omega⟩
  have z1:¬(i:Int)<(St.ay f:Nat):=by omega
  have hfin:∃f ps q,St.la fmt f raw.1.1 ps q/\f.length<=10/\bc f<=115:=by
   obtain⟨q,hq⟩:=u6.out;exact⟨f,ps,q,⟨oP.out,hq,by have:=HN.out;omega,by omega,C5.out,Ns.out,by rw[HITS.out,List.take_of_length_le (by rw[St.lm];omega)],La.out⟩,by have:=HN.out;omega,ht⟩
  have dr:=aa hfin;clear hfin;go_wp2_with fail;refine hlen.out.mono ?_;rintro e w2 ⟨rfl,rfl⟩;go_wp2;go_ret;exact⟨raw,rfl,dr.out,by omega,HG.out.le (by omega),HK.out⟩
theorem ye{fmt:Int}{f:List St.It}(h:ti f):St.lv fmt f/\(∃q,St.dY (St.aN f) [] 0=UX ([],q))/\∀x∈St.gE f,x.2.1.length<=24:=by
 have hx:∀x∈St.gE f,x.2.2=0/\x.1=5/\St.aB x.2.1=true:=λx hx=>by
  obtain⟨hm,hn⟩:=List.mem_filter.1 hx;obtain⟨h0,h1|h1⟩:=h.2 x hm
  ·simp[h1]at hn
  exact⟨h0,h1⟩
 have ht:St.jj f=[]:=by
  rw[<-St.sZ];unfold St.jj;rw[List.filter_eq_nil_iff];intro x hm;rw[(hx x hm).2.1];decide
 refine⟨⟨h.1,λx hm=>.inl ⟨(hx x hm).2.1,(hx x hm).2.2,(hx x hm).1⟩,?_⟩,⟨0,?_⟩,λx hm=>(St.q6 (hx x hm).2.2).1⟩
 ·rw[St.BH,ht];exact List.Pairwise.nil
 rw[St.uH _ _ _ (St.Nc λx hm _=>(hx x hm).1),show(St.aN f).filter (λx=>St.aJ x.1)=St.jj (St.aN f)from rfl,St.Cl,ht];rfl
theorem JP{ns:Bool}{f op:List St.It}{c:Nat}(h:St.eH ns f op c):∀x∈f,x.1≠1->x.2.1.length<=24:=by
 have add:∀ {f:List St.It} {x:St.It},(∀y∈f,y.1≠1->y.2.1.length<=24)->(x.1≠1->x.2.1.length<=24)->∀y∈St.aP f x,y.1≠1->y.2.1.length<=24:=by
  intro f x hf hx y hy h1;rcases St.gf hy with hy|rfl|⟨hy,_⟩
  ·exact hf y hy h1
  ·exact hx h1
  exact absurd hy h1
 have t4:∀t∈St.D9,t.length<=24:=by decide
 have t2:∀t∈St.zg,t.length<=24:=by decide
 induction h with
 | nil=>intro x hx;cases hx
 | text t h ih=>exact add ih (λe=>absurd rfl e)
 | slot t ht h ih=>exact add ih (λ_=>(St.q6 ht).1)
 | empty t ht h ih=>exact add ih (λ_=>t4 t ht)
 | opened t ht h ih=>exact add ih (λ_=>t2 t ht)
 | closed k hk hl h ih=>exact add ih (λ_=>by
   have h1:=(h.small _ (List.getElem_mem hk)).1
   show(St.nameOf _).length<=24
   exact Nat.le_trans (St.uE _) (by omega))
 | stray hn h ih=>exact add ih (λ_=>by show 1<=24;omega)
theorem G2{f:List St.It}{c:Nat}(h:St.eH true f [] c)(hc:c<=999):St.lv 1 f/\(∃q,St.dY (St.aN f) [] 0=UX ([],q))/\∀x∈St.gE f,x.2.1.length<=24:=by
 have hg:=St.G1 h hc;refine⟨⟨hg.nm,λx hx=>?_,hg.bw⟩,hg.ok,λx hx=>?_⟩
 ·obtain⟨hm,hn⟩:=List.mem_filter.1 hx;rcases hg.items x hm with⟨g,_⟩|g|g|g
  ·simp[g]at hn
  ·exact .inl g
  ·exact .inr ⟨rfl,.inl g⟩
  exact .inr ⟨rfl,.inr g⟩
 obtain⟨hm,hn⟩:=List.mem_filter.1 hx;exact JP h x hm (by simpa using hn)
end
section
def zE(fmt:Int)(n:Nat)(data:ByteArray):Prop:=∃p us,data.1.1=p++St.bZ us/\St.zH fmt p us/\us.length<=n/\∀u∈us,∃f qs c,St.la fmt f u.r qs c/\f.length<=10/\bc f<=115
theorem KP(r:Nat):(⟨(St.nP r).toArray⟩:ByteArray).size<=3:=by unfold St.nP;split;decide;split<;>decide
def Pq(w:UY)(B g P m h:Nat)(s7 s9:Value)(wr:UY):Prop:=
 ∃(i:Nat) (data:ByteArray) (us:List St.Wu),s7=UN data/\s9=UM US i/\us.length+i=m/\data.1.1=St.jz h++St.bZ us/\((∀u∈us,∃f qs c,St.la 2 f u.r qs c/\f.length<=10/\bc f<=115)/\∀j u,us[j]?=UX u->St.C8 m j u)/\data.size<=4+5010*us.length/\bK wr B g (P+2+300*us.length)/\w.grownBy wr (UX g)
theorem E2(B g P n:Nat)(w:UY)(hG:bK w B g P)(hP:P<=10000)(hn:n<=9) :
  Calls Tryz.prog 100 #[UQ (UX ⟨g,0,UW⟩),UM US 2,UM US n] w λe w'=>∃data:ByteArray,e=UU (UN data)/\zE 2 n data/\data.size<=12+5010*n/\bK w' B g (P+2+300*n)/\w.grownBy w' (UX g):=by
 have HG:=aa hG;obtain⟨kw,hB⟩:=hG.lt;clear hG;go_enter Tryz.func100,Tryz.ntmps100;go_wp2_with fail;refine(cx B g P 3 _ (HG.out.ai ((ac.refl _).alloc (.cells #[UN ⟨#[]⟩,UN ⟨#[35,32,99,10]⟩,UN ⟨#[10,32,10]⟩] 9))) (by omega) (by omega) (by omega)).mono ?_;rintro e w2 ⟨r,rfl,hr,hG2,hk2⟩
 obtain⟨hb,hhb,hhs⟩:∃hb:ByteArray,(#[UN ⟨#[]⟩,UN ⟨#[35,32,99,10]⟩,UN ⟨#[10,32,10]⟩]:Array Value)[r]?=UX (UN hb)/\hb.1.1=St.jz r:=by
  rcases(show r=0\/r=1\/r=2 by omega)with h|h|h<;>subst h<;>exact⟨_,rfl,rfl⟩
 have QQ:hb.size<=4:=by
  rw[<-St.aC,hhs];unfold St.jz;split;decide;split<;>decide
 have hcell:=gw w w2 _ _ B g hk2 kw hB r _ hhb;have HG2:=aa hG2;have iO:=aa (aW (((ac.refl w).alloc _).gb (UX g)) hk2 (λ_ e=>.inl e));have kr:=iO.out.size;haveI:af w.1.size w2:=af.of (cM _ _ hcell);have hr3:r<3:=by omega
 obtain⟨h,hh⟩:∃h,h=r:=⟨_,rfl⟩;clear hG2 hk2 HG hhb;go_wp2_with fail;refine(cx B g _ ((n:Int)+1) _ HG2.out (by omega) (by omega) (by omega)).mono ?_;rintro e w3 ⟨m,rfl,hm,hG3,hk3⟩;have kk:=aa hG3;have gu:=aa (aW iO.out hk3 (λ_ e=>.inl e));clear hG3 hk3 HG2 iO hcell;rw[<-hh]at hhs hr3;clear hh hr;go_wp2_with fail;go_loopw [7,9] (λs7 s9 wr=>Pq w B g P m h s7 s9 wr) (λ_ s9 _=>(intOf s9).toNat)
 case atStart=>exact⟨m,hb,[],rfl,rfl,by simp,by simp[hhs,St.bZ],⟨(λx hx=>by cases hx),(λj u h=>by simp at h)⟩,by simp;omega,kk.out.le (by simp),gu.out⟩
 case round=>
  clear kk gu;obtain⟨i,data,us,rfl,rfl,hki,hdt,hrs,hds,hG,hk⟩:=hrel;have HG:=aa hG;have HK:=aa hk;have xA:=aa hdt;have oS:=aa hrs;have Ff:=hk.size;clear hG hk hdt hrs
  by_cases hi:0<i
  ·have z:(0:Int)<(i:Int):=by omega
   go_wp2_with fail;refine(AJ B g _ 5 _ HG.out (by omega) (by omega)).mono ?_;rintro e w4 ⟨v,f,rfl,ho,hgd,hfl,hft,hG4,hk4⟩;obtain⟨A4,c4,rfl,h41,h42,_⟩:=aT ho;have fx:=aa hG4;have dB:=aa (aW HK.out hk4 (λ_ e=>.inl e));have hit:=aX ho rfl;have hbl:=λb off (e:A4=UX ⟨b,off,UW⟩)=>aG ho b (by subst e;rfl)
   have HIT:=aa hit;have oP:=aa hgd;clear hG4 hk4 ho hit hgd HG HK;go_wp2_with fail;obtain⟨sy,hgd2,hgd3⟩:=ye (fmt:=2) oP.out;refine(sE 2 (.inr (.inl rfl)) B g _ A4 f.length c4 f _ fx.out (by omega) rfl HIT.out (λb off e=>by have:=hbl b off e;omega) (by omega) (by omega) sy hgd2 hgd3).mono ?_;rintro e w5 ⟨raw,rfl,hR,Dz,fV,hk5⟩;have cL:=aa (aW dB.out hk5 (λ_ e=>.inl e));have fI:=aa hR;obtain⟨Q,hQ,fV⟩:∃Q,Q+1<=P+2+300*(us.length+1)/\bK w5 B g Q:=⟨_,by omega,fV⟩;have S6:Q<=1000000:=by omega
   have kt:=aa fV;obtain⟨dg,hdg⟩:∃dg:ByteArray,(⟨(Lib.decDigits i).toArray⟩:ByteArray)=dg:=⟨_,rfl⟩;have Up:dg.size=1:=by rw[<-hdg];exact GG (by omega)
   clear fV hk5 fx dB hR HIT oP hbl sy hgd2 hgd3;go_wp2_with fail;refine(pA i w5 (by omega)).mono ?_;rintro e w6 ⟨rfl,eZ⟩;rw[hdg];have u5:=aa (kt.out.ai eZ);have eg:=aa (cm cL.out eZ);clear eZ kt cL;go_wp2_with fail;refine(cx B g Q 3 _ (u5.out.ai ((ac.refl _).alloc (.cells #[UN ⟨#[]⟩,UN ⟨#[35,120,10]⟩,UN ⟨#[10]⟩] 9))) (by omega) (by omega) (by omega)).mono ?_;rintro e w7 ⟨r,rfl,hr,hG7,hk7⟩
   obtain⟨tb,fF,hts⟩:∃tb:ByteArray,(#[UN ⟨#[]⟩,UN ⟨#[35,120,10]⟩,UN ⟨#[10]⟩]:Array Value)[r]?=UX (UN tb)/\tb=⟨(St.nP r).toArray⟩:=by
    rcases(show r=0\/r=1\/r=2 by omega)with h|h|h<;>subst h<;>exact⟨_,rfl,rfl⟩
   have NU:=u5.out.lt;have hcell:=gw w6 w7 _ _ B g hk7 NU.1 NU.2 r _ fF;have Lb:=aa hG7;have lZ:=aa (aW (cm eg.out ((ac.refl _).alloc _)) hk7 (λ_ e=>.inl e));have J5:=hk7.size;haveI:af w6.1.size w7:=af.of (cM _ _ hcell);have vJ:tb.size<=3:=by rw[hts];exact KP r
   have RU:r<3:=by omega
   have xK:=aa hts;have Sl:=aa hdg;clear hG7 hk7 u5 eg fF hts hdg;go_wp2;obtain⟨u,hu⟩:∃u:St.Wu,u=⟨St.iF i++[61],St.iF i,raw.1.1,10 :: St.nP r⟩:=⟨_,rfl⟩;refine⟨⟨i-1,_,us++[u],rfl,congrArg (UM US) (by omega),by simp;omega,?_,⟨?_,St.uQ oS.out.2 ⟨r,RU,?_⟩⟩,?_,Lb.out.le (by rw[List.length_append,List.length_singleton];omega),lZ.out⟩,by simp[intOf];omega⟩
   ·rw[St.pE,<-List.append_assoc,<-xA.out,hu,xK.out,<-Sl.out];simp[St.iF]
   ·intro v hv;rcases List.mem_append.1 hv with hv|hv
    ·exact oS.out.1 v hv
    simp at hv;subst hv;subst hu;exact fI.out
   ·subst hu;rw[show m-us.length=i by omega];exact⟨rfl,rfl,rfl⟩
   rw[List.length_append,List.length_singleton];simp only[ByteArray.size_append]
   show _+(1+_+1+_+1+_)<=_
   omega
  have z:¬(0:Int)<(i:Int):=by omega
  have hlen:us.length=m:=by omega
  go_wp2;go_ret;exact⟨data,rfl,⟨St.jz h,us,xA.out,.inr (.inl ⟨rfl,⟨h,hr3,rfl⟩,by omega,by rw[hlen];exact oS.out.2⟩),by omega,oS.out.1⟩,by omega,HG.out.le (by omega),HK.out⟩
end
section
def eu(aw:Nat):ByteArray:=⟨(St.jg aw).toArray⟩
def gR(aw:Nat):ByteArray:=⟨(St.io aw).toArray⟩
theorem mr(aw:Nat):(eu aw).size<=2:=by unfold eu St.jg;split;decide;split<;>decide
theorem kW(aw:Nat):(gR aw).size<=4:=by unfold gR St.io;split;decide;split<;>decide
def Pr(w:UY)(B g P n aw:Nat)(s7 s9:Value)(wr:UY):Prop:=
 ∃(i k:Nat) (data:ByteArray) (us:List St.Wu),s7=UN data/\s9=UM US i/\k+i<=n/\data.1.1=St.lK aw++St.bZ us/\us.length=k/\((∀u∈us,∃f qs c,St.la 3 f u.r qs c/\f.length<=10/\bc f<=115)/\∀j u,us[j]?=UX u->St.C9 Lib.decDigits aw j u)/\data.size<=12+5010*k/\bK wr B g (P+2+300*k)/\w.grownBy wr (UX g)
def N3(data raw:ByteArray)(aw:Nat):List gY:=[
 λv _=>v=UN data,
 λv W=>∃b,v=UO (UX ⟨b,0,UW⟩) 3 3/\b<W.1.size/\∀r,r<3->W.cell? ⟨b,r,UW⟩=UX (UN (R7 r)),
 λv _=>v=UM US aw,
 λv W=>∃b,v=UQ (UX ⟨b,aw,UW⟩)/\b<W.1.size/\W.cell? ⟨b,aw,UW⟩=UX (UN (eu aw)),
 λv _=>v=UN (eu aw),
 λv _=>v=UN ((⟨#[10]⟩:ByteArray)++eu aw),
 λv _=>v=UN ((⟨#[10]⟩:ByteArray)++eu aw++(⟨#[34]⟩:ByteArray)),
 λv _=>v=UN raw,
 λv _=>v=UN ((⟨#[10]⟩:ByteArray)++eu aw++(⟨#[34]⟩:ByteArray)++raw),
 λv _=>v=UN ((⟨#[10]⟩:ByteArray)++eu aw++(⟨#[34]⟩:ByteArray)++raw++(⟨#[34]⟩:ByteArray)),
 λv W=>∃b,v=UO (UX ⟨b,0,UW⟩) 3 3/\b<W.1.size/\∀r,r<3->W.cell? ⟨b,r,UW⟩=UX (UN (PW r)),
 λv _=>v=UM US aw,
 λv W=>∃b,v=UQ (UX ⟨b,aw,UW⟩)/\b<W.1.size/\W.cell? ⟨b,aw,UW⟩=UX (UN (gR aw)),
 λv _=>v=UN (gR aw),
 λv _=>v=UN ((⟨#[10]⟩:ByteArray)++eu aw++(⟨#[34]⟩:ByteArray)++raw++(⟨#[34]⟩:ByteArray)++gR aw),
 λv _=>v=UN (data++((⟨#[10]⟩:ByteArray)++eu aw++(⟨#[34]⟩:ByteArray)++raw++(⟨#[34]⟩:ByteArray)++gR aw)),
 λv _=>v=UN (data++((⟨#[10]⟩:ByteArray)++eu aw++(⟨#[34]⟩:ByteArray)++raw++(⟨#[34]⟩:ByteArray)++gR aw))]
theorem E3(B g P n:Nat)(w:UY)(hG:bK w B g P)(hP:P<=10000)(hn:n<=10) :
  Calls Tryz.prog 100 #[UQ (UX ⟨g,0,UW⟩),UM US 3,UM US n] w λe w'=>∃data:ByteArray,e=UU (UN data)/\zE 3 n data/\data.size<=12+5010*n/\bK w' B g (P+2+300*n)/\w.grownBy w' (UX g):=by
 have HG:=aa hG;obtain⟨kw,hB⟩:=hG.lt;clear hG;go_enter Tryz.func100,Tryz.ntmps100;go_wp2_with fail;refine(cx B g P 3 _ (HG.out.ai ((ac.refl _).alloc (.cells #[UN ⟨#[116,101,120,116]⟩,UN ⟨#[105,100,44,116,101,120,116]⟩,UN ⟨#[34,97,44,98,34,44,116,101,120,116,44,99]⟩] 9))) (by omega) (by omega) (by omega)).mono ?_;rintro e w2 ⟨r,rfl,hr,hG2,hk2⟩
 obtain⟨hb,hhb,hhs,hhq⟩:∃hb:ByteArray,(#[UN ⟨#[116,101,120,116]⟩,UN ⟨#[105,100,44,116,101,120,116]⟩,UN ⟨#[34,97,44,98,34,44,116,101,120,116,44,99]⟩]:Array Value)[r]?=UX (UN hb)/\hb.1.1=St.lK r/\((hb.size:Int) / 6=r):=by
  rcases(show r=0\/r=1\/r=2 by omega)with h|h|h<;>subst h<;>exact⟨_,rfl,rfl,rfl⟩
 have QQ:hb.size<=12:=by
  rw[<-St.aC,hhs];unfold St.lK;split;decide;split<;>decide
 have hcell:=gw w w2 _ _ B g hk2 kw hB r _ hhb;have HG2:=aa hG2;have iO:=aa (aW (((ac.refl w).alloc _).gb (UX g)) hk2 (λ_ e=>.inl e));have kr:=iO.out.size;haveI:af w.1.size w2:=af.of (cM _ _ hcell);have hr3:r<3:=by omega
 obtain⟨aw,hcol⟩:∃aw,aw=r:=⟨_,rfl⟩;clear hG2 hk2 HG hhb;go_wp2_with fail;refine(cx B g _ ((n:Int)+1) _ HG2.out (by omega) (by omega) (by omega)).mono ?_;rintro e w3 ⟨m,rfl,hm,hG3,hk3⟩;have kk:=aa hG3;have gu:=aa (aW iO.out hk3 (λ_ e=>.inl e));clear hG3 hk3 HG2 iO hcell;rw[<-hcol]at hhs hr3 |-;clear hcol hr;go_wp2_with fail;go_loopw [7,9] (λs7 s9 wr=>Pr w B g P n aw s7 s9 wr) (λ_ s9 _=>(intOf s9).toNat)
 case atStart=>exact⟨m,0,hb,[],rfl,rfl,by omega,by simp[hhs,St.bZ],rfl,⟨(λx hx=>by cases hx),(λj u h=>by simp at h)⟩,by omega,kk.out.le (by omega),gu.out⟩
 case round=>
  clear kk gu;obtain⟨i,k,data,us,rfl,rfl,hki,hdt,hrl,hrs,hds,hG,hk⟩:=hrel;have HG:=aa hG;have HK:=aa hk;have xA:=aa hdt;have Lh:=aa hrl;have oS:=aa hrs;have Ff:=hk.size;clear hG hk hdt hrl hrs
  by_cases hi:0<i
  ·have z:(0:Int)<(i:Int):=by omega
   go_wp2_with fail;refine(AJ B g _ 5 _ HG.out (by omega) (by omega)).mono ?_;rintro e w4 ⟨v,f,rfl,ho,hgd,hfl,hft,hG4,hk4⟩;obtain⟨A4,c4,rfl,h41,h42,_⟩:=aT ho;have fx:=aa hG4;have dB:=aa (aW HK.out hk4 (λ_ e=>.inl e));have hit:=aX ho rfl;have hbl:=λb off (e:A4=UX ⟨b,off,UW⟩)=>aG ho b (by subst e;rfl)
   have HIT:=aa hit;have oP:=aa hgd;clear hG4 hk4 ho hit hgd HG HK;go_wp2_with fail;obtain⟨sy,hgd2,hgd3⟩:=ye (fmt:=3) oP.out;refine(sE 3 (.inr (.inr rfl)) B g _ A4 f.length c4 f _ fx.out (by omega) rfl HIT.out (λb off e=>by have:=hbl b off e;omega) (by omega) (by omega) sy hgd2 hgd3).mono ?_;rintro e w5 ⟨raw,rfl,hR,Dz,fV,hk5⟩;have fV:=fV.le (show _<=P+2+300*(k+1)by omega);have kt:=aa fV;have cL:=aa (aW dB.out hk5 (λ_ e=>.inl e));have fI:=aa hR;clear fV hk5 fx dB hR HIT oP hbl sy hgd2 hgd3;go_wp2_with fail;refine bz (λa b=>ac a b) (λ_ _=>True) (N3 data raw aw) ac.refl (λa b c h k=>ac.trans h k) (by kernel_rfl) (by rfl) (by kernel_rfl) (by kernel_rfl) ?frD ?hfr ?hI ?hob ?hend
   case hfr=>
    intro ρ;simp only[ch,Act.put,aq,al,ar,Nat.zero_add,Nat.reduceAdd];exact rfl
   case hI=>trivial
   case hob=>
    unfold N3;refine aj.cons (λρ L W hR hI hL hD hO hF K hK=>?_) ?_
    ·have eo:ρ 16=UN data:=hO 16 _ 7 rfl rfl (hD.not (p:=16) rfl (by decide) hL);clear hF hD hO hI hL hR;simp only[Act.put,aq,al,ar]at hK |-;rw[eo]at hK |-;go_simp;refine hK _ _ (ac.refl _) trivial (λW2 h2=>?_);rfl
    refine aj.cons (λρ L W hR hI hL hD hO hF K hK=>?_) ?_
    ·clear hF hD hO hI hL hR;simp only[Act.put,aq,al,ar]at hK |-;go_simp;refine hK _ _ ((ac.refl W).alloc _) trivial (λW2 h2=>⟨W.1.size,rfl,by have:=h2.size;simp at this;omega,λr hr=>?_⟩);rw[h2.cell (p:=⟨W.1.size,r,UW⟩) (by simp),World.cell?_alloc_at _ _ _ _ rfl];rcases(show r=0\/r=1\/r=2 by omega)with h|h|h<;>subst h<;>rfl
    refine aj.cons (λρ L W hR hI hL hD hO hF K hK=>?_) ?_
    ·clear hF hD hO hI hL hR;simp only[Act.put,aq,al,ar]at hK |-;go_simp;refine hK _ _ (ac.refl _) trivial (λW2 h2=>?_);rfl
    refine aj.cons (λρ L W hR hI hL hD hO hF K hK=>?_) ?_
    ·have f1:=ag hF (j:=1) (by decide);have f2:=ag hF (j:=2) (by decide);clear hF hD hO hI hL hR;simp only[Act.put,aq,al,ar]at hK |-;obtain⟨b,e0,hb2,hc⟩:=f1;have e2:ρ 2=UM US aw:=f2;rw[e0,e2]at hK |-;have bM:aw<3:=by omega
     have z1:((aw:Nat):Int)<3:=by omega
     haveI:af b W:=af.of hb2;go_simp;refine hK _ _ (ac.refl _) trivial (λW2 h2=>?_);exact⟨b,rfl,Nat.lt_of_lt_of_le hb2 h2.size,(h2.cell hb2).trans (hc _ bM)⟩
    refine aj.cons (λρ L W hR hI hL hD hO hF K hK=>?_) ?_
    ·have f3:=ag hF (j:=3) (by decide);clear hF hD hO hI hL hR;simp only[Act.put,aq,al,ar]at hK |-;obtain⟨b,e3,hb2,hc⟩:=f3;rw[e3]at hK |-;go_simp;refine hK _ _ (ac.refl _) trivial (λW2 h2=>?_);rfl
    refine aj.cons (λρ L W hR hI hL hD hO hF K hK=>?_) ?_
    ·have f4:=ag hF (j:=4) (by decide);clear hF hD hO hI hL hR;simp only[Act.put,aq,al,ar]at hK |-;have e4:ρ 4=UN (eu aw):=f4;rw[e4]at hK |-;have h1:=mr aw;have h2:=kW aw;have y1:¬9223372036854775807<1+(eu aw).size:=by omega
     go_simp;refine hK _ _ (ac.refl _) trivial (λW2 h2=>?_);rfl
    refine aj.cons (λρ L W hR hI hL hD hO hF K hK=>?_) ?_
    ·have f5:=ag hF (j:=5) (by decide);clear hF hD hO hI hL hR;simp only[Act.put,aq,al,ar]at hK |-;have e5:ρ 5=UN ((⟨#[10]⟩:ByteArray)++eu aw):=f5;rw[e5]at hK |-;have h1:=mr aw;have h2:=kW aw;have y1:¬9223372036854775807<1+(eu aw).size+1:=by omega
     go_simp;refine hK _ _ (ac.refl _) trivial (λW2 h2=>?_);rfl
    refine aj.cons (λρ L W hR hI hL hD hO hF K hK=>?_) ?_
    ·clear hF hD hO hI hL hR;simp only[Act.put,aq,al,ar]at hK |-;go_simp;refine hK _ _ (ac.refl _) trivial (λW2 h2=>?_);rfl
    refine aj.cons (λρ L W hR hI hL hD hO hF K hK=>?_) ?_
    ·have f6:=ag hF (j:=6) (by decide);have f7:=ag hF (j:=7) (by decide);clear hF hD hO hI hL hR;simp only[Act.put,aq,al,ar]at hK |-;have e6:ρ 6=UN ((⟨#[10]⟩:ByteArray)++eu aw++(⟨#[34]⟩:ByteArray)):=f6;have e7:ρ 7=UN raw:=f7;rw[e6,e7]at hK |-;have h1:=mr aw;have h2:=kW aw;have y1:¬9223372036854775807<1+(eu aw).size+1+raw.size:=by omega
     go_simp;refine hK _ _ (ac.refl _) trivial (λW2 h2=>?_);rfl
    refine aj.cons (λρ L W hR hI hL hD hO hF K hK=>?_) ?_
    ·have f8:=ag hF (j:=8) (by decide);clear hF hD hO hI hL hR;simp only[Act.put,aq,al,ar]at hK |-;have e8:ρ 8=UN ((⟨#[10]⟩:ByteArray)++eu aw++(⟨#[34]⟩:ByteArray)++raw):=f8;rw[e8]at hK |-;have h1:=mr aw;have h2:=kW aw;have y1:¬9223372036854775807<1+(eu aw).size+1+raw.size+1:=by omega
     go_simp;refine hK _ _ (ac.refl _) trivial (λW2 h2=>?_);rfl
    refine aj.cons (λρ L W hR hI hL hD hO hF K hK=>?_) ?_
    ·clear hF hD hO hI hL hR;simp only[Act.put,aq,al,ar]at hK |-;go_simp;refine hK _ _ ((ac.refl W).alloc _) trivial (λW2 h2=>⟨W.1.size,rfl,by have:=h2.size;simp at this;omega,λr hr=>?_⟩);rw[h2.cell (p:=⟨W.1.size,r,UW⟩) (by simp),World.cell?_alloc_at _ _ _ _ rfl];rcases(show r=0\/r=1\/r=2 by omega)with h|h|h<;>subst h<;>rfl
    refine aj.cons (λρ L W hR hI hL hD hO hF K hK=>?_) ?_
    ·clear hF hD hO hI hL hR;simp only[Act.put,aq,al,ar]at hK |-;go_simp;refine hK _ _ (ac.refl _) trivial (λW2 h2=>?_);rfl
    refine aj.cons (λρ L W hR hI hL hD hO hF K hK=>?_) ?_
    ·have f10:=ag hF (j:=10) (by decide);have f11:=ag hF (j:=11) (by decide);clear hF hD hO hI hL hR;simp only[Act.put,aq,al,ar]at hK |-;obtain⟨b,e0,hb2,hc⟩:=f10;have e2:ρ 11=UM US aw:=f11;rw[e0,e2]at hK |-;have bM:aw<3:=by omega
     have z1:((aw:Nat):Int)<3:=by omega
     haveI:af b W:=af.of hb2;go_simp;refine hK _ _ (ac.refl _) trivial (λW2 h2=>?_);exact⟨b,rfl,Nat.lt_of_lt_of_le hb2 h2.size,(h2.cell hb2).trans (hc _ bM)⟩
    refine aj.cons (λρ L W hR hI hL hD hO hF K hK=>?_) ?_
    ·have f12:=ag hF (j:=12) (by decide);clear hF hD hO hI hL hR;simp only[Act.put,aq,al,ar]at hK |-;obtain⟨b,e3,hb2,hc⟩:=f12;rw[e3]at hK |-;go_simp;refine hK _ _ (ac.refl _) trivial (λW2 h2=>?_);rfl
    refine aj.cons (λρ L W hR hI hL hD hO hF K hK=>?_) ?_
    ·have f9:=ag hF (j:=9) (by decide);have f13:=ag hF (j:=13) (by decide);clear hF hD hO hI hL hR;simp only[Act.put,aq,al,ar]at hK |-;have e9:ρ 9=UN ((⟨#[10]⟩:ByteArray)++eu aw++(⟨#[34]⟩:ByteArray)++raw++(⟨#[34]⟩:ByteArray)):=f9;have GM:ρ 13=UN (gR aw):=f13;rw[e9,GM]at hK |-;have h1:=mr aw;have h2:=kW aw;have y1:¬9223372036854775807<1+(eu aw).size+1+raw.size+1+(gR aw).size:=by omega
     go_simp;refine hK _ _ (ac.refl _) trivial (λW2 h2=>?_);rfl
    refine aj.cons (λρ L W hR hI hL hD hO hF K hK=>?_) ?_
    ·have f0:=ag hF (j:=0) (by decide);have f14:=ag hF (j:=14) (by decide);clear hF hD hO hI hL hR;simp only[Act.put,aq,al,ar]at hK |-;have e0:ρ 0=UN data:=f0;have AC:ρ 14=UN ((⟨#[10]⟩:ByteArray)++eu aw++(⟨#[34]⟩:ByteArray)++raw++(⟨#[34]⟩:ByteArray)++gR aw):=f14;rw[e0,AC]at hK |-;have h1:=mr aw;have h2:=kW aw;have y1:¬9223372036854775807<data.size+(1+(eu aw).size+1+raw.size+1+(gR aw).size):=by omega
     go_simp;refine hK _ _ (ac.refl _) trivial (λW2 h2=>?_);rfl
    refine aj.cons (λρ L W hR hI hL hD hO hF K hK=>?_) ?_
    ·have f15:=ag hF (j:=15) (by decide);clear hF hD hO hI hL hR;simp only[Act.put,aq,al,ar]at hK |-;have GN:ρ 15=UN (data++((⟨#[10]⟩:ByteArray)++eu aw++(⟨#[34]⟩:ByteArray)++raw++(⟨#[34]⟩:ByteArray)++gR aw)):=f15;rw[GN]at hK |-;go_simp;refine hK _ _ (ac.refl _) trivial (λW2 h2=>?_);rfl
    exact aj.nil
   case hend=>
    intro ρ L W hR hI hL hF;obtain⟨_,_,_,_,_,_,_,_,_,_,_,_,_,_,_,_,  e16,_⟩:=hF;have e16:ρ 16=UN (data++((⟨#[10]⟩:ByteArray)++eu aw++(⟨#[34]⟩:ByteArray)++raw++(⟨#[34]⟩:ByteArray)++gR aw)):=e16;clear hI hL;rw[e16];have eZ:=aa (cm cL.out ((ac.refl _).drew.trans hR));have SW:=aa (kt.out.ai ((ac.refl _).drew.trans hR));clear hR e16;go_wp2;obtain⟨u,hu⟩:∃u:St.Wu,u=⟨[10]++St.jg aw++[34],Lib.decDigits (us.length+1),raw.1.1,34 :: St.io aw⟩:=⟨_,rfl⟩;refine⟨⟨i-1,k+1,_,us++[u],rfl,congrArg (UM US) (by omega),by omega,?_,?_,⟨?_,St.uQ oS.out.2 (by subst hu;exact⟨rfl,rfl,rfl⟩)⟩,?_,SW.out.le (by omega),eZ.out⟩,by simp[intOf];omega⟩
    ·rw[St.pE,<-List.append_assoc,<-xA.out,hu];simp[eu,gR]
    ·simp[Lh.out]
    ·intro v hv;rcases List.mem_append.1 hv with hv|hv
     ·exact oS.out.1 v hv
     simp at hv;subst hv;subst hu;exact fI.out
    have h1:=mr aw;have h2:=kW aw;simp only[ByteArray.size_append]
    show _+(1+_+1+_+1+_)<=_
    omega
  have z:¬(0:Int)<(i:Int):=by omega
  go_wp2;go_ret;exact⟨data,rfl,⟨St.lK aw,us,xA.out,.inr (.inr ⟨rfl,aw,hr3,rfl,oS.out.2⟩),by rw[Lh.out];omega,oS.out.1⟩,by omega,HG.out.le (by omega),HK.out⟩
end
section
def fb(q:Nat):ByteArray:=⟨(St.nF q).toArray⟩
theorem iV(q:Nat):(fb q).size<=6:=by unfold fb St.nF;split<;>decide
def jZ(r:Nat):ByteArray:=⟨(St.kF r).toArray⟩
theorem ta(r:Nat):(jZ r).size<=5:=by unfold jZ St.kF;split;decide;split<;>decide
def Pp(w:UY)(B g P m h:Nat)(s7 s9:Value)(wr:UY):Prop:=
 ∃(i:Nat) (data:ByteArray) (us:List St.Wu),s7=UN data/\s9=UM US i/\us.length+i=m/\data.1.1=St.iZ h++St.bZ us/\((∀u∈us,∃f qs c,St.la 1 f u.r qs c/\f.length<=10/\bc f<=115)/\∀j u,us[j]?=UX u->St.Lp Lib.decDigits j u)/\data.size<=13+5040*us.length/\bK wr B g (P+2+400*us.length)/\w.grownBy wr (UX g)
theorem E1(B g P n:Nat)(w:UY)(hG:bK w B g P)(hP:P<=10000)(hn:n<=9) :
  Calls Tryz.prog 100 #[UQ (UX ⟨g,0,UW⟩),UM US 1,UM US n] w λe w'=>∃data:ByteArray,e=UU (UN data)/\zE 1 n data/\data.size<=13+5040*n/\bK w' B g (P+2+400*n)/\w.grownBy w' (UX g):=by
 have HG:=aa hG;obtain⟨kw,hB⟩:=hG.lt;clear hG;go_enter Tryz.func100,Tryz.ntmps100;go_wp2_with fail;refine(cx B g P 3 _ (HG.out.ai ((ac.refl _).alloc (.cells #[UN ⟨#[]⟩,UN ⟨#[60,104,116,109,108,62]⟩,UN ⟨#[60,33,45,45,32,60,112,62,32,45,45,62,120]⟩] 9))) (by omega) (by omega) (by omega)).mono ?_;rintro e w2 ⟨r,rfl,hr,hG2,hk2⟩
 obtain⟨hb,hhb,hhs⟩:∃hb:ByteArray,(#[UN ⟨#[]⟩,UN ⟨#[60,104,116,109,108,62]⟩,UN ⟨#[60,33,45,45,32,60,112,62,32,45,45,62,120]⟩]:Array Value)[r]?=UX (UN hb)/\hb.1.1=St.iZ r:=by
  rcases(show r=0\/r=1\/r=2 by omega)with h|h|h<;>subst h<;>exact⟨_,rfl,rfl⟩
 have QQ:hb.size<=13:=by
  rw[<-St.aC,hhs];unfold St.iZ;split;decide;split<;>decide
 have hcell:=gw w w2 _ _ B g hk2 kw hB r _ hhb;have HG2:=aa hG2;have iO:=aa (aW (((ac.refl w).alloc _).gb (UX g)) hk2 (λ_ e=>.inl e));have kr:=iO.out.size;haveI:af w.1.size w2:=af.of (cM _ _ hcell);have hr3:r<3:=by omega
 obtain⟨h,hh⟩:∃h,h=r:=⟨_,rfl⟩;clear hG2 hk2 HG hhb;go_wp2_with fail;refine(cx B g _ ((n:Int)+1) _ HG2.out (by omega) (by omega) (by omega)).mono ?_;rintro e w3 ⟨m,rfl,hm,hG3,hk3⟩;have kk:=aa hG3;have gu:=aa (aW iO.out hk3 (λ_ e=>.inl e));clear hG3 hk3 HG2 iO hcell;rw[<-hh]at hhs hr3;clear hh hr;go_wp2_with fail;go_loopw [7,9] (λs7 s9 wr=>Pp w B g P m h s7 s9 wr) (λ_ s9 _=>(intOf s9).toNat)
 case atStart=>exact⟨m,hb,[],rfl,rfl,by simp,by simp[hhs,St.bZ],⟨(λx hx=>by cases hx),(λj u h=>by simp at h)⟩,by simp;omega,kk.out.le (by simp),gu.out⟩
 case round=>
  clear kk gu;obtain⟨i,data,us,rfl,rfl,hki,hdt,hrs,hds,hG,hk⟩:=hrel;have HG:=aa hG;have HK:=aa hk;have xA:=aa hdt;have oS:=aa hrs;have Ff:=hk.size;clear hG hk hdt hrs
  by_cases hi:0<i
  ·have z:(0:Int)<(i:Int):=by omega
   go_wp2_with fail;refine(GY B g _ 5 _ HG.out (by omega) (by omega)).mono ?_;rintro e w4 ⟨v,f,cc,rfl,ho,hgt,hfl,hft,hcn,hG4,hk4⟩;obtain⟨A4,c4,rfl,h41,h42,_⟩:=aT ho;obtain⟨sy,hgd2,hgd3⟩:=G2 hgt (by omega);have fx:=aa hG4;have dB:=aa (aW HK.out hk4 (λ_ e=>.inl e));have hit:=aX ho rfl;have hbl:=λb off (e:A4=UX ⟨b,off,UW⟩)=>aG ho b (by subst e;rfl)
   have HIT:=aa hit;clear hG4 hk4 ho hit hgt HG HK;go_wp2_with fail;refine(sE 1 (.inl rfl) B g _ A4 f.length c4 f _ fx.out (by omega) rfl HIT.out (λb off e=>by have:=hbl b off e;omega) (by omega) (by omega) sy hgd2 hgd3).mono ?_;rintro e w5 ⟨raw,rfl,hR,Dz,fV,hk5⟩;have cL:=aa (aW dB.out hk5 (λ_ e=>.inl e));have fI:=aa hR;obtain⟨Q0,hQ,fV⟩:∃Q,Q+3<=P+2+400*(us.length+1)/\bK w5 B g Q:=⟨_,by omega,fV⟩;have S6:Q0<=1000000:=by omega
   have kt:=aa fV;clear fV hk5 fx dB hR HIT hbl sy hgd2 hgd3;go_wp2_with fail;refine(cx B g Q0 3 _ (kt.out.ai ((ac.refl _).alloc (.cells #[UN ⟨#[112]⟩,UN ⟨#[108,105]⟩,UN ⟨#[116,105,116,108,101]⟩] 9))) (by omega) (by omega) (by omega)).mono ?_;rintro e w7 ⟨ni,rfl,hni,hG7,hk7⟩
   obtain⟨nm,a8,hnms⟩:∃nm:ByteArray,(#[UN ⟨#[112]⟩,UN ⟨#[108,105]⟩,UN ⟨#[116,105,116,108,101]⟩]:Array Value)[ni]?=UX (UN nm)/\nm.1.1=St.jd ni:=by
    rcases(show ni=0\/ni=1\/ni=2 by omega)with h|h|h<;>subst h<;>exact⟨_,rfl,rfl⟩
   have NT:=kt.out.lt;have hcell:=gw w5 w7 _ _ B g hk7 NT.1 NT.2 ni _ a8;have hnz:nm.size<=5:=by rw[<-St.aC,hnms];unfold St.jd;split;decide;split<;>decide
   have lZ:=aa (aW (cm cL.out ((ac.refl _).alloc _)) hk7 (λ_ e=>.inl e));obtain⟨Q,hQ,hG7⟩:∃Q,Q=Q0+1/\bK w7 B g Q:=⟨_,rfl,hG7⟩;have Lb:=aa hG7;have J5:=hk7.size;haveI:af w5.1.size w7:=af.of (cM _ _ hcell);have Rl:=aa hnms;clear hG7 hk7 kt cL a8 hnms;go_wp2_with fail;refine bz (λa b=>a.grownBy b (UX g)) (λL W=>bK W B g (Q+(if L 5 then 1 else 0)+(if L 18 then 1 else 0))) [λv _=>v=UN data,λv _=>v=UN nm,λv _=>v=UN ((⟨#[60]⟩:ByteArray)++nm),λv W=>∃b,v=UO (UX ⟨b,0,UW⟩) 2 2/\B<=b/\b<W.1.size/\∀r,r<2->W.cell? ⟨b,r,UW⟩=UX (UN (fb r)),λv _=>v=UQ (UX ⟨g,0,UW⟩),λv _=>∃r:Nat,r<2/\v=UM US r,λv W=>∃b r,r<2/\B<=b/\b<W.1.size/\v=UQ (UX ⟨b,r,UW⟩)/\W.cell? ⟨b,r,UW⟩=UX (UN (fb r)),λv _=>∃r:Nat,r<2/\v=UN (fb r),λv _=>∃q:Nat,q<2/\v=UN ((⟨#[60]⟩:ByteArray)++nm++fb q),λv _=>∃q:Nat,q<2/\v=UN ((⟨#[60]⟩:ByteArray)++nm++fb q++(⟨#[62]⟩:ByteArray)),λv _=>v=UN raw,λv _=>∃q:Nat,q<2/\v=UN ((⟨#[60]⟩:ByteArray)++nm++fb q++(⟨#[62]⟩:ByteArray)++raw),λv _=>∃q:Nat,q<2/\v=UN ((⟨#[60]⟩:ByteArray)++nm++fb q++(⟨#[62]⟩:ByteArray)++raw++(⟨#[60,47]⟩:ByteArray)),λv _=>v=UN nm,λv _=>∃q:Nat,q<2/\v=UN ((⟨#[60]⟩:ByteArray)++nm++fb q++(⟨#[62]⟩:ByteArray)++raw++(⟨#[60,47]⟩:ByteArray)++nm),λv _=>∃q:Nat,q<2/\v=UN ((⟨#[60]⟩:ByteArray)++nm++fb q++(⟨#[62]⟩:ByteArray)++raw++(⟨#[60,47]⟩:ByteArray)++nm++(⟨#[62]⟩:ByteArray)),λv W=>∃b,v=UO (UX ⟨b,0,UW⟩) 3 3/\B<=b/\b<W.1.size/\∀r,r<3->W.cell? ⟨b,r,UW⟩=UX (UN (jZ r)),λv _=>v=UQ (UX ⟨g,0,UW⟩),λv _=>∃r:Nat,r<3/\v=UM US r,λv W=>∃b r,r<3/\B<=b/\b<W.1.size/\v=UQ (UX ⟨b,r,UW⟩)/\W.cell? ⟨b,r,UW⟩=UX (UN (jZ r)),λv _=>∃r:Nat,r<3/\v=UN (jZ r),λv _=>∃q r:Nat,q<2/\r<3/\v=UN ((⟨#[60]⟩:ByteArray)++nm++fb q++(⟨#[62]⟩:ByteArray)++raw++(⟨#[60,47]⟩:ByteArray)++nm++(⟨#[62]⟩:ByteArray)++jZ r),λv _=>∃q r:Nat,q<2/\r<3/\v=UN (data++((⟨#[60]⟩:ByteArray)++nm++fb q++(⟨#[62]⟩:ByteArray)++raw++(⟨#[60,47]⟩:ByteArray)++nm++(⟨#[62]⟩:ByteArray)++jZ r)),λv _=>∃q r:Nat,q<2/\r<3/\v=UN (data++((⟨#[60]⟩:ByteArray)++nm++fb q++(⟨#[62]⟩:ByteArray)++raw++(⟨#[60,47]⟩:ByteArray)++nm++(⟨#[62]⟩:ByteArray)++jZ r))] (λa=>bi a _) (λa b c h k=>aW h k (λ_ e=>.inl e)) (by kernel_rfl) (by rfl) (by kernel_rfl) (by kernel_rfl) ?fr ?hfr ?hI ?hob ?hend
   case hfr=>
    intro ρ;simp only[ch,Act.put,aq,al,ar,Nat.zero_add,Nat.reduceAdd];exact rfl
   case hI=>exact(Lb.out.ai (by exact uZ)).le (by simp)
   case hob=>
    refine aj.cons (λρ L W hR hI hL hD hO hF K hK=>?_) ?_
    ·have ez:g<W.1.size:=Nat.lt_of_lt_of_le hI.lt.1 hI.lt.2;have dD:=hI.lt.2;have eo:ρ 23=UN data:=hO 23 _ 7 rfl rfl (hD.not (p:=23) rfl (by decide) hL);clear hF hD hO;simp only[Act.put,aq,al,ar]at hK |-;rw[eo]at hK |-;go_simp;refine hK _ _ (bi _ _) (by simpa[au]using hI) (λW2 h2=>?_);rfl
    refine aj.cons (λρ L W hR hI hL hD hO hF K hK=>?_) ?_
    ·have ez:g<W.1.size:=Nat.lt_of_lt_of_le hI.lt.1 hI.lt.2;have dD:=hI.lt.2;clear hF hD hO;simp only[Act.put,aq,al,ar]at hK |-;go_simp;refine hK _ _ (bi _ _) (by simpa[au]using hI) (λW2 h2=>?_);rfl
    refine aj.cons (λρ L W hR hI hL hD hO hF K hK=>?_) ?_
    ·have ez:g<W.1.size:=Nat.lt_of_lt_of_le hI.lt.1 hI.lt.2;have dD:=hI.lt.2;have f1:=ag hF (j:=1) (by decide);clear hF hD hO;simp only[Act.put,aq,al,ar]at hK |-;have e1:ρ 1=UN nm:=f1;rw[e1]at hK |-;have y1:¬9223372036854775807<1+nm.size:=by omega
     go_simp;refine hK _ _ (bi _ _) (by simpa[au]using hI) (λW2 h2=>?_);rfl
    refine aj.cons (λρ L W hR hI hL hD hO hF K hK=>?_) ?_
    ·have ez:g<W.1.size:=Nat.lt_of_lt_of_le hI.lt.1 hI.lt.2;have dD:=hI.lt.2;clear hF hD hO;simp only[Act.put,aq,al,ar]at hK |-;go_simp;refine hK _ _ (((ac.refl W).alloc _).gb _) (by simpa[au]using hI.ai ((ac.refl W).alloc _)) (λW2 h2=>⟨W.1.size,rfl,dD,by have:=h2.size;simp at this;omega,λr hr=>?_⟩);rw[dd h2 (p:=⟨W.1.size,r,UW⟩) (by simp) (by simp;omega),World.cell?_alloc_at _ _ _ _ rfl];rcases(show r=0\/r=1 by omega)with h|h<;>subst h<;>rfl
    refine aj.cons (λρ L W hR hI hL hD hO hF K hK=>?_) ?_
    ·have ez:g<W.1.size:=Nat.lt_of_lt_of_le hI.lt.1 hI.lt.2;have dD:=hI.lt.2;clear hF hD hO;simp only[Act.put,aq,al,ar]at hK |-;go_simp;refine hK _ _ (bi _ _) (by simpa[au]using hI) (λW2 h2=>?_);rfl
    refine aj.cons (λρ L W hR hI hL hD hO hF K hK=>?_) ?_
    ·have ez:g<W.1.size:=Nat.lt_of_lt_of_le hI.lt.1 hI.lt.2;have dD:=hI.lt.2;have f4:=ag hF (j:=4) (by decide);clear hF hD hO;simp only[Act.put,aq,al,ar]at hK |-;have e4:ρ 4=UQ (UX ⟨g,0,UW⟩):=f4;rw[e4]at hK |-;have NV:bK W B g (Q+(if L 18 then 1 else 0)):=hI.le (by simp[hL]);refine kg (o:=⟨UX 81,_,_,_,_,_⟩) rfl 64 #[UQ (UX ⟨g,0,UW⟩),UM US 2] _ (cx B g (Q+(if L 18 then 1 else 0)) 2 W NV (by split<;>omega) (by omega) (by omega)) ?_ ?_
     ·go_simp
     rintro e W2 ⟨r,rfl,hr,hG2,hk⟩;exact⟨_,rfl,hK _ _ hk (hG2.le (by simp[au];try omega)) (λW3 h3=>⟨r,by omega,rfl⟩)⟩
    refine aj.cons (λρ L W hR hI hL hD hO hF K hK=>?_) ?_
    ·have ez:g<W.1.size:=Nat.lt_of_lt_of_le hI.lt.1 hI.lt.2;have dD:=hI.lt.2;have f3:=ag hF (j:=3) (by decide);have f5:=ag hF (j:=5) (by decide);clear hF hD hO;simp only[Act.put,aq,al,ar]at hK |-;obtain⟨b,e0,hb1,hb2,hc⟩:=f3;obtain⟨r,hr,e2⟩:=f5;rw[e0,e2]at hK |-;have z1:(r:Int)<2:=by omega
     haveI:af b W:=af.of hb2;go_simp;refine hK _ _ (bi _ _) (by simpa[au]using hI) (λW2 h2=>?_);have hc2:=(dd h2 (p:=⟨b,r,UW⟩) hb2 (by simp;omega)).trans (hc r hr);exact⟨b,r,hr,hb1,Nat.lt_of_lt_of_le hb2 h2.size,rfl,hc2⟩
    refine aj.cons (λρ L W hR hI hL hD hO hF K hK=>?_) ?_
    ·have ez:g<W.1.size:=Nat.lt_of_lt_of_le hI.lt.1 hI.lt.2;have dD:=hI.lt.2;have f6:=ag hF (j:=6) (by decide);clear hF hD hO;simp only[Act.put,aq,al,ar]at hK |-;obtain⟨b,r,hr,hb1,hb2,e3,hc⟩:=f6;rw[e3]at hK |-;haveI:af b W:=af.of hb2;go_simp;refine hK _ _ (bi _ _) (by simpa[au]using hI) (λW2 h2=>?_);exact⟨r,hr,rfl⟩
    refine aj.cons (λρ L W hR hI hL hD hO hF K hK=>?_) ?_
    ·have ez:g<W.1.size:=Nat.lt_of_lt_of_le hI.lt.1 hI.lt.2;have dD:=hI.lt.2;have f2:=ag hF (j:=2) (by decide);have f7:=ag hF (j:=7) (by decide);clear hF hD hO;simp only[Act.put,aq,al,ar]at hK |-;have e2:ρ 2=UN ((⟨#[60]⟩:ByteArray)++nm):=f2;obtain⟨q,hq,e7⟩:=f7;rw[e2,e7]at hK |-;have qi:=iV q;have y1:¬9223372036854775807<1+nm.size+(fb q).size:=by omega
     go_simp;refine hK _ _ (bi _ _) (by simpa[au]using hI) (λW2 h2=>?_);exact⟨q,hq,rfl⟩
    refine aj.cons (λρ L W hR hI hL hD hO hF K hK=>?_) ?_
    ·have ez:g<W.1.size:=Nat.lt_of_lt_of_le hI.lt.1 hI.lt.2;have dD:=hI.lt.2;have f8:=ag hF (j:=8) (by decide);clear hF hD hO;simp only[Act.put,aq,al,ar]at hK |-;obtain⟨q,hq,e8⟩:=f8;rw[e8]at hK |-;have qi:=iV q;have y1:¬9223372036854775807<1+nm.size+(fb q).size+1:=by omega
     go_simp;refine hK _ _ (bi _ _) (by simpa[au]using hI) (λW2 h2=>?_);exact⟨q,hq,rfl⟩
    refine aj.cons (λρ L W hR hI hL hD hO hF K hK=>?_) ?_
    ·have ez:g<W.1.size:=Nat.lt_of_lt_of_le hI.lt.1 hI.lt.2;have dD:=hI.lt.2;clear hF hD hO;simp only[Act.put,aq,al,ar]at hK |-;go_simp;refine hK _ _ (bi _ _) (by simpa[au]using hI) (λW2 h2=>?_);rfl
    refine aj.cons (λρ L W hR hI hL hD hO hF K hK=>?_) ?_
    ·have ez:g<W.1.size:=Nat.lt_of_lt_of_le hI.lt.1 hI.lt.2;have dD:=hI.lt.2;have f9:=ag hF (j:=9) (by decide);have f10:=ag hF (j:=10) (by decide);clear hF hD hO;simp only[Act.put,aq,al,ar]at hK |-;obtain⟨q,hq,e9⟩:=f9;have e10:ρ 10=UN raw:=f10;rw[e9,e10]at hK |-;have qi:=iV q;have y1:¬9223372036854775807<1+nm.size+(fb q).size+1+raw.size:=by omega
     go_simp;refine hK _ _ (bi _ _) (by simpa[au]using hI) (λW2 h2=>?_);exact⟨q,hq,rfl⟩
    refine aj.cons (λρ L W hR hI hL hD hO hF K hK=>?_) ?_
    ·have ez:g<W.1.size:=Nat.lt_of_lt_of_le hI.lt.1 hI.lt.2;have dD:=hI.lt.2;have f11:=ag hF (j:=11) (by decide);clear hF hD hO;simp only[Act.put,aq,al,ar]at hK |-;obtain⟨q,hq,e11⟩:=f11;rw[e11]at hK |-;have qi:=iV q;have y1:¬9223372036854775807<1+nm.size+(fb q).size+1+raw.size+2:=by omega
     go_simp;refine hK _ _ (bi _ _) (by simpa[au]using hI) (λW2 h2=>?_);exact⟨q,hq,rfl⟩
    refine aj.cons (λρ L W hR hI hL hD hO hF K hK=>?_) ?_
    ·have ez:g<W.1.size:=Nat.lt_of_lt_of_le hI.lt.1 hI.lt.2;have dD:=hI.lt.2;clear hF hD hO;simp only[Act.put,aq,al,ar]at hK |-;go_simp;refine hK _ _ (bi _ _) (by simpa[au]using hI) (λW2 h2=>?_);rfl
    refine aj.cons (λρ L W hR hI hL hD hO hF K hK=>?_) ?_
    ·have ez:g<W.1.size:=Nat.lt_of_lt_of_le hI.lt.1 hI.lt.2;have dD:=hI.lt.2;have f12:=ag hF (j:=12) (by decide);have f13:=ag hF (j:=13) (by decide);clear hF hD hO;simp only[Act.put,aq,al,ar]at hK |-;obtain⟨q,hq,e12⟩:=f12;have GM:ρ 13=UN nm:=f13;rw[e12,GM]at hK |-;have qi:=iV q;have y1:¬9223372036854775807<1+nm.size+(fb q).size+1+raw.size+2+nm.size:=by omega
     go_simp;refine hK _ _ (bi _ _) (by simpa[au]using hI) (λW2 h2=>?_);exact⟨q,hq,rfl⟩
    refine aj.cons (λρ L W hR hI hL hD hO hF K hK=>?_) ?_
    ·have ez:g<W.1.size:=Nat.lt_of_lt_of_le hI.lt.1 hI.lt.2;have dD:=hI.lt.2;have f14:=ag hF (j:=14) (by decide);clear hF hD hO;simp only[Act.put,aq,al,ar]at hK |-;obtain⟨q,hq,AC⟩:=f14;rw[AC]at hK |-;have qi:=iV q;have y1:¬9223372036854775807<1+nm.size+(fb q).size+1+raw.size+2+nm.size+1:=by omega
     go_simp;refine hK _ _ (bi _ _) (by simpa[au]using hI) (λW2 h2=>?_);exact⟨q,hq,rfl⟩
    refine aj.cons (λρ L W hR hI hL hD hO hF K hK=>?_) ?_
    ·have ez:g<W.1.size:=Nat.lt_of_lt_of_le hI.lt.1 hI.lt.2;have dD:=hI.lt.2;clear hF hD hO;simp only[Act.put,aq,al,ar]at hK |-;go_simp;refine hK _ _ (((ac.refl W).alloc _).gb _) (by simpa[au]using hI.ai ((ac.refl W).alloc _)) (λW2 h2=>⟨W.1.size,rfl,dD,by have:=h2.size;simp at this;omega,λr hr=>?_⟩);rw[dd h2 (p:=⟨W.1.size,r,UW⟩) (by simp) (by simp;omega),World.cell?_alloc_at _ _ _ _ rfl];rcases(show r=0\/r=1\/r=2 by omega)with h|h|h<;>subst h<;>rfl
    refine aj.cons (λρ L W hR hI hL hD hO hF K hK=>?_) ?_
    ·have ez:g<W.1.size:=Nat.lt_of_lt_of_le hI.lt.1 hI.lt.2;have dD:=hI.lt.2;clear hF hD hO;simp only[Act.put,aq,al,ar]at hK |-;go_simp;refine hK _ _ (bi _ _) (by simpa[au]using hI) (λW2 h2=>?_);rfl
    refine aj.cons (λρ L W hR hI hL hD hO hF K hK=>?_) ?_
    ·have ez:g<W.1.size:=Nat.lt_of_lt_of_le hI.lt.1 hI.lt.2;have dD:=hI.lt.2;have f17:=ag hF (j:=17) (by decide);clear hF hD hO;simp only[Act.put,aq,al,ar]at hK |-;have e17:ρ 17=UQ (UX ⟨g,0,UW⟩):=f17;rw[e17]at hK |-;have NV:bK W B g (Q+(if L 5 then 1 else 0)):=hI.le (by simp[hL]);refine kg (o:=⟨UX 94,_,_,_,_,_⟩) rfl 64 #[UQ (UX ⟨g,0,UW⟩),UM US 3] _ (cx B g (Q+(if L 5 then 1 else 0)) 3 W NV (by split<;>omega) (by omega) (by omega)) ?_ ?_
     ·go_simp
     rintro e W2 ⟨r,rfl,hr,hG2,hk⟩;exact⟨_,rfl,hK _ _ hk (hG2.le (by simp[au];try omega)) (λW3 h3=>⟨r,by omega,rfl⟩)⟩
    refine aj.cons (λρ L W hR hI hL hD hO hF K hK=>?_) ?_
    ·have ez:g<W.1.size:=Nat.lt_of_lt_of_le hI.lt.1 hI.lt.2;have dD:=hI.lt.2;have f16:=ag hF (j:=16) (by decide);have f18:=ag hF (j:=18) (by decide);clear hF hD hO;simp only[Act.put,aq,al,ar]at hK |-;obtain⟨b,e0,hb1,hb2,hc⟩:=f16;obtain⟨r,hr,e2⟩:=f18;rw[e0,e2]at hK |-;have z1:(r:Int)<3:=by omega
     haveI:af b W:=af.of hb2;go_simp;refine hK _ _ (bi _ _) (by simpa[au]using hI) (λW2 h2=>?_);have hc2:=(dd h2 (p:=⟨b,r,UW⟩) hb2 (by simp;omega)).trans (hc r hr);exact⟨b,r,hr,hb1,Nat.lt_of_lt_of_le hb2 h2.size,rfl,hc2⟩
    refine aj.cons (λρ L W hR hI hL hD hO hF K hK=>?_) ?_
    ·have ez:g<W.1.size:=Nat.lt_of_lt_of_le hI.lt.1 hI.lt.2;have dD:=hI.lt.2;have f19:=ag hF (j:=19) (by decide);clear hF hD hO;simp only[Act.put,aq,al,ar]at hK |-;obtain⟨b,r,hr,hb1,hb2,e3,hc⟩:=f19;rw[e3]at hK |-;haveI:af b W:=af.of hb2;go_simp;refine hK _ _ (bi _ _) (by simpa[au]using hI) (λW2 h2=>?_);exact⟨r,hr,rfl⟩
    refine aj.cons (λρ L W hR hI hL hD hO hF K hK=>?_) ?_
    ·have ez:g<W.1.size:=Nat.lt_of_lt_of_le hI.lt.1 hI.lt.2;have dD:=hI.lt.2;have f15:=ag hF (j:=15) (by decide);have f20:=ag hF (j:=20) (by decide);clear hF hD hO;simp only[Act.put,aq,al,ar]at hK |-;obtain⟨q,hq,GN⟩:=f15;obtain⟨r,hr,e20⟩:=f20;rw[GN,e20]at hK |-;have qi:=iV q;have hbl:=ta r;have y1:¬9223372036854775807<1+nm.size+(fb q).size+1+raw.size+2+nm.size+1+(jZ r).size:=by omega
     go_simp;refine hK _ _ (bi _ _) (by simpa[au]using hI) (λW2 h2=>?_);exact⟨q,r,hq,hr,rfl⟩
    refine aj.cons (λρ L W hR hI hL hD hO hF K hK=>?_) ?_
    ·have ez:g<W.1.size:=Nat.lt_of_lt_of_le hI.lt.1 hI.lt.2;have dD:=hI.lt.2;have f0:=ag hF (j:=0) (by decide);have f21:=ag hF (j:=21) (by decide);clear hF hD hO;simp only[Act.put,aq,al,ar]at hK |-;have e0:ρ 0=UN data:=f0;obtain⟨q,r,hq,hr,e21⟩:=f21;rw[e0,e21]at hK |-;have qi:=iV q;have hbl:=ta r;have y1:¬9223372036854775807<data.size+(1+nm.size+(fb q).size+1+raw.size+2+nm.size+1+(jZ r).size):=by omega
     go_simp;refine hK _ _ (bi _ _) (by simpa[au]using hI) (λW2 h2=>?_);exact⟨q,r,hq,hr,rfl⟩
    refine aj.cons (λρ L W hR hI hL hD hO hF K hK=>?_) ?_
    ·have ez:g<W.1.size:=Nat.lt_of_lt_of_le hI.lt.1 hI.lt.2;have dD:=hI.lt.2;have f22:=ag hF (j:=22) (by decide);clear hF hD hO;simp only[Act.put,aq,al,ar]at hK |-;obtain⟨q,r,hq,hr,e22⟩:=f22;rw[e22]at hK |-;go_simp;refine hK _ _ (bi _ _) (by simpa[au]using hI) (λW2 h2=>?_);exact⟨q,r,hq,hr,rfl⟩
    exact aj.nil
   case hend=>
    intro ρ L W hR hI hL hF;obtain⟨_,_,_,_,_,_,_,_,_,_,_,_,_,_,_,_,_,_,_,_,_,_,_,⟨q,r,hq,hr,g23⟩,_⟩:=hF;have QE:bK W B g (Q+2):=hI.le (by split<;>split<;>omega);have Sn:=aa QE;have iu:=aa (aW (cm lZ.out (show ac w7 w7.drew from(ac.refl _).drew)) hR (λ_ e=>.inl e));have qi:=iV q;have hbl:=ta r;clear hI hR hL QE lZ Lb;rw[g23];clear g23;go_wp2;obtain⟨u,hu⟩:∃u:St.Wu,u=⟨[60]++(St.jd ni++St.nF q)++[62],Lib.decDigits (us.length+1),raw.1.1,St.df (St.jd ni)++St.kF r⟩:=⟨_,rfl⟩;refine⟨⟨i-1,_,us++[u],rfl,congrArg (UM US) (by omega),by simp;omega,?_,⟨?_,St.uQ oS.out.2 (by subst hu;exact⟨ni,q,r,hr,rfl,rfl,rfl⟩)⟩,?_,Sn.out.le (by rw[List.length_append,List.length_singleton];omega),iu.out⟩,by simp[intOf];omega⟩
    ·rw[St.pE,<-List.append_assoc,<-xA.out,hu];simp[fb,jZ,Rl.out,St.df]
    ·intro v hv;rcases List.mem_append.1 hv with hv|hv
     ·exact oS.out.1 v hv
     simp at hv;subst hv;subst hu;exact fI.out
    rw[List.length_append,List.length_singleton];simp only[ByteArray.size_append]
    show _+(1+_+_+1+_+2+_+1+_)<=_
    omega
  have z:¬(0:Int)<(i:Int):=by omega
  have hlen:us.length=m:=by omega
  go_wp2;go_ret;exact⟨data,rfl,⟨St.iZ h,us,xA.out,.inl ⟨rfl,⟨h,hr3,rfl⟩,oS.out.2⟩,by omega,oS.out.1⟩,by omega,HG.out.le (by omega),HK.out⟩
end
