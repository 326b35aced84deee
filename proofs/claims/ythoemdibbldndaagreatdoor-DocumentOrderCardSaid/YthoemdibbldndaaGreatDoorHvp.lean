/- Plain: a document as the maker writes it, part for part: what splitting gives, in the. -/
import Derived.Test.YthoemdibbldndaaGreatDoorRsA
import Derived.Test.YthoemdibbldndaaGreatDoorPlr
set_option linter.all false
open Option renaming some->Yz
namespace Go.Proofs.YthoemdibbldndaaGreatDoor.St
structure Wu where
 o:List UInt8
 k:List UInt8
 r:List UInt8
 c:List UInt8
def bX(us:List Wu):List UInt8:=us.flatMap λu=>u.o++(u.r++u.c)
def bc:List UInt8->List Wu->List Pt
 | p,[]=>[(false,[],p)]
 | p,u :: us=>(false,[],p++u.o) :: (true,u.k,u.r) :: bc u.c us
theorem dY(u:Wu)(us:List Wu):bX (u :: us)=u.o++(u.r++(u.c++bX us)):=by simp[bX]
theorem jn:∀(us:List Wu) (p:List UInt8),b8 (bc p us)=p++bX us
 | [],p=>by simp[bc,bX,b8]
 | u :: us,p=>by
  have:=jn us u.c
  rw[dY];simp only[b8,bc,List.flatMap_cons]at this |-;rw[this];simp
theorem qE(us:List Wu)(u:Wu):bX (us++[u])=bX us++(u.o++(u.r++u.c)):=by simp[bX]
theorem wR{P:Nat->Wu->Prop}{us:List Wu}{u:Wu}(h:∀j v,us[j]?=Yz v->P j v)(hu:P us.length u):∀j v,(us++[u])[j]?=Yz v->P j v:=by
 intro j v hv
 by_cases hj:j<us.length
 ·rw[List.getElem?_append_left hj]at hv;exact h j v hv
 rw[List.getElem?_append_right (by omega)]at hv;obtain⟨k,hk⟩:∃k,j-us.length=k:=⟨_,rfl⟩;rw[hk]at hv;cases k with
 | zero=>
  simp at hv;subst hv;rw[show j=us.length by omega];exact hu
 | succ k=>simp at hv
def iL(d:List UInt8)(a:Nat)(s:PS)(p R:List UInt8):Prop:=a=s.2+p.length/\d.drop s.2=p++R
section
variable {d p R x o r:List UInt8} {a:Nat} {s:PS}
theorem iL.rest(h:iL d a s p R):d.drop a=R:=by
 obtain⟨rfl,h⟩:=h;rw[<-List.drop_drop,h,List.drop_left]
theorem iL.more(h:iL d a s p (x++R)):iL d (a+x.length) s (p++x) R:=by
 obtain⟨rfl,h⟩:=h;exact⟨by simp;omega,by rw[h];simp⟩
theorem zux{d x y:List UInt8}{a b:Nat}(h:d.drop a=x++y)(hb:b=a+x.length):aZ d a b=x:=by
 subst hb;exact C5 h
theorem iL.unit(h:iL d a s p (o++(r++R)))(key:List UInt8){b e:Nat}(hb:b=a+o.length)(he:e=b+r.length) :
  bk d s b e key=(s.1++[(false,[],p++o),(true,key,r)],e)/\iL d e (bk d s b e key) [] R/\aZ d b e=r:=by
 have h1:=h.more.rest;obtain⟨rfl,h0⟩:=h;have c1:aZ d s.2 b=p++o:=zux (y:=r++R) (by rw[h0];simp) (by simp;omega);have c2:aZ d b e=r:=zux (y:=R) (by rw[hb];exact h1) he;have e1:bk d s b e key=(s.1++[(false,[],p++o),(true,key,r)],e):=by unfold bk;rw[c1,c2]
 refine⟨e1,?_,c2⟩;rw[e1];refine⟨by simp,?_⟩
 show d.drop e=[]++R
 rw[he,<-List.drop_drop,hb,h1,List.drop_left];rfl
theorem iL.fin(h:iL d a s p []):d.length<=a/\cG d s=s.1++[(false,[],p)]:=by
 have h1:=h.rest;refine⟨by simpa using h1,?_⟩;unfold cG;rw[h.2,List.append_nil]
end
section
variable {dE:List UInt8->Nat × Int} {dig:Nat->List UInt8} {d:List UInt8}
def Om(dig:Nat->List UInt8)(i:Nat)(u:Wu):Prop:=∃nm at' tl,tl<3/\u.o=[60]++(jx nm++oo at')++[62]/\u.k=dig (i+1)/\u.c=dn (jx nm)++lq tl
def Ma(r:List UInt8):Prop:=∀b,bE b=true->tH b r
theorem Se:∀(us:List Wu) (r a:Nat) (s:PS) (p:List UInt8),(∀i u,us[i]?=Yz u->Om dig (r+i) u/\Ma u.r/\(dE u.r).2=0)->iL d a s p (bX us)->∃s',od dE dig d a r s=.ok s'/\cG d s'=s.1++bc p us
 | [],r,a,s,p,_,hs=>⟨s,Pw hs.fin.1,hs.fin.2⟩
 | u :: us,r,a,s,p,h,hs=>by
  obtain⟨⟨nm,at',tl,h3,ho,hk,hc⟩,hq,he⟩:=h 0 u rfl;obtain⟨hb,hcn,hn⟩:=Nb nm at';have hol:u.o.length=(jx nm++oo at').length+2:=by rw[ho];simp;omega
  have hcl:u.c.length=(jx nm).length+3+(lq tl).length:=by rw[hc];simp[dn];omega
  rw[dY]at hs;have hd0:d.drop a=[60]++(jx nm++oo at')++[62]++(u.r++(dn (jx nm)++(lq tl++bX us))):=by rw[hs.rest,ho,hc];simp
  obtain⟨h1,hd1,_⟩:=LV (dE:=dE) (dig:=dig) (r:=r) (s:=s) hb hcn hn (hq _ hb) he hd0;rw[<-hol]at h1 hd1;obtain⟨g1,g2,_⟩:=hs.unit (dig (r+1)) rfl rfl;obtain⟨h4,_⟩:=LK (dE:=dE) (dig:=dig) (r:=r+1) (s:=bk d s (a+u.o.length) (a+u.o.length+u.r.length) (dig (r+1))) h3 hd1;have g3:=g2.more;rw[List.nil_append]at g3
  obtain⟨s',k1,k2⟩:=Se us (r+1) _ _ _ (λi v hv=>by
   have:=h (i+1) v hv
   rwa [show r+(i+1)=r+1+i by omega]at this) g3
  refine⟨s',?_,?_⟩
  ·rw[h1,h4,<-k1];congr 1;omega
  rw[k2,g1,bc,hk];simp
theorem LB{h:Nat}{us:List Wu}(hh:h<3)(hu:∀i u,us[i]?=Yz u->Om dig i u/\Ma u.r/\(dE u.r).2=0)(hz:d.length<=65536)(hd:d=jv h++bX us):ix dE dig d=(bc (jv h) us,0,0):=by
 obtain⟨h1,h2⟩:=nM (dE:=dE) (dig:=dig) (r:=0) (s:=([],0)) hh hd;obtain⟨s',k1,k2⟩:=Se (dE:=dE) (dig:=dig) (d:=d) us 0 (jv h).length ([],0) (jv h) (λi u hi=>by rw[Nat.zero_add];exact hu i u hi) ⟨by simp,by simpa using hd⟩;rw[LF (by omega),h1,k1]
 show(cG d s',0,0)=_
 rw[k2];rfl
end
end Go.Proofs.YthoemdibbldndaaGreatDoor.St
namespace Go.Proofs.YthoemdibbldndaaGreatDoor.St
def iA(b:List UInt8):Prop:=∀l,di (b++l)=b.length+di l
theorem xJ:iA []:=λl=>by simp
theorem nI{a b:List UInt8}(ha:iA a)(hb:iA b):iA (a++b):=by
 intro l;rw[List.append_assoc,ha,hb,List.length_append];omega
theorem nJ{c:UInt8}(h:c.toNat≠10)(h2:c.toNat≠92):iA [c]:=by
 intro l
 show di (c :: l)=1+di l
 rw[di.eq_def];simp only[];rw[if_neg h,if_neg h2]
theorem xK(c:UInt8):iA [92,c]:=by
 intro l
 show di (92 :: c :: l)=2+di l
 rw[di.eq_def];simp only[];rw[if_neg (by decide),if_pos (by decide)]
theorem J8:∀ {b:List UInt8},(∀c∈b,c.toNat≠10/\c.toNat≠92)->iA b
 | [],_=>xJ
 | c :: b,h=>nI (a:=[c]) (nJ (h c (by simp)).1 (h c (by simp)).2) (J8 (λd hd=>h d (by simp[hd])))
theorem Pz{t:List UInt8}(h:aF t=true):∀c∈t,c.toNat≠10/\c.toNat≠92:=by
 cases t with
 | nil=>cases h
 | cons c r=>
  rw[aF]at h;simp only[Bool.and_eq_true,decide_eq_true_eq,lD]at h;obtain⟨_,h1,h2⟩:=h;intro d hd;rcases List.mem_cons.1 hd with rfl|hd
  ·omega
  have:=List.all_eq_true.1 h2 d hd
  simp only[fl,decide_eq_true_eq]at this;omega
theorem Pc(c:UInt8):iA (bl 2 c):=by
 unfold bl;simp only[Int.reduceEq,if_false,if_true]
 repeat' split
 all_goals first|exact xK _|(refine nJ ?_ ?_<;>omega)
theorem Dg{p:It}(h:oO p):iA (aL 2 p):=by
 rcases h with⟨c,rfl⟩|⟨t,rfl,ht⟩
 ·have e:aL 2 (1,[c],0)=bl 2 c:=by simp[aL]
  rw[e];exact Pc c
 have e:aL 2 (5,t,0)=123 :: (t++[125]):=by simp[aL]
 rw[e];exact nI (a:=[123]) (nJ (by decide) (by decide)) (nI (J8 (Pz ht)) (nJ (by decide) (by decide)))
theorem J9{p:It}(h:oO p):iA (ck (aL 2 p)):=by
 have h0:=Dg h;cases hb:aL 2 p with
 | nil=>exact xJ
 | cons c r=>
  rw[hb]at h0;rw[ck]
  split
  ·rename_i vr
   have hr:iA r:=by
    intro l;have:=h0 l
    rw[List.cons_append]at this;have h1:=nJ (c:=c) (by omega) (by omega) (r++l);rw[List.singleton_append]at h1;rw[h1]at this;simp at this;omega
   exact nI (xK 115) hr
  exact h0
theorem Mr(r:Nat):iA (dJ r):=by
 unfold dJ
 repeat' split
 ·exact xJ
 ·exact nJ (by decide) (by decide)
 exact nI (a:=[9]) (nJ (by decide) (by decide)) (nJ (by decide) (by decide))
theorem Pd{p:It}{b:List UInt8}(h:oO p)(hf:jY 2 p b):iA b:=by
 rcases hf with rfl|⟨h1,_⟩|⟨_,⟨_,_,rfl⟩|⟨r,_,rfl⟩⟩
 ·exact Dg h
 ·exact absurd h1 (by decide)
 ·exact xK 115
 exact nI (nI (xK 10) (Mr r)) (J9 h)
theorem F6:∀ {ps:List (List UInt8 × It)},(∀p∈ps,iA p.1)->iA (a6 ps)
 | [],_=>xJ
 | p :: ps,h=>nI (h p (by simp)) (F6 (λq hq=>h q (by simp[hq])))
theorem Mp{raw:List UInt8}(h:iA raw)(r:List UInt8):di (raw++10 :: r)=raw.length:=by
 rw[h];have:di (10 :: r)=0:=by rw[di.eq_def];simp only[];rw[if_pos (by decide)]
 omega
theorem O5{i:Nat}(h:i<10):Lib.decDigits i=[UInt8.ofNat (48+i)]:=Lib.decDigits_one h
theorem zm{i:Nat}(h:i<10):(UInt8.ofNat (48+i)).toNat=48+i:=UInt8.toNat_ofNat_of_lt' (by show 48+i<256;omega)
theorem nV{dE:List UInt8->Nat × Int}{d:List UInt8}{fuel a n:Nat}{s:PS}{t R:List UInt8}(hd:d.drop a=t++10 :: R)(hs:dR (t++10 :: R)=true)(ht:∀c∈t,c.toNat≠10)(hn:n=a+t.length+1):dc dE d (fuel+1) a s=dc dE d fuel n s/\d.drop n=R:=by
 have hl:=congrArg List.length hd;simp at hl
 have tj:cw (d.drop a)=t.length:=by
  rw[hd];unfold cw;rw[List.takeWhile_append_of_pos (λc hc=>by simpa using ht c hc),List.takeWhile_cons_of_neg (by decide),List.append_nil]
 refine⟨?_,?_⟩
 ·rw[kv (by omega) (by rw[hd];exact hs),tj,<-hn,Nat.min_eq_left (by omega)]
 rw[hn,<-List.drop_drop,<-List.drop_drop,hd,List.drop_left];rfl
def jZ(h:Nat):List UInt8:=if h=0 then[]else if h=1 then[35,32,99,10]else[10,32,10]
def oA(r:Nat):List UInt8:=if r=0 then[]else if r=1 then[35,120,10]else[10]
def iY(i:Nat):List UInt8:=[107]++Lib.decDigits i
theorem LJ{dE:List UInt8->Nat × Int}{d R:List UInt8}{fuel a r:Nat}{s:PS}(hr:r<3)(hd:d.drop a=oA r++R):dc dE d (fuel+1) a s=dc dE d fuel (a+(oA r).length) s\/dc dE d (fuel+1) a s=dc dE d (fuel+1) (a+(oA r).length) s:=by
 rcases(show r=0\/r=1\/r=2 by omega)with rfl|rfl|rfl
 ·exact .inr rfl
 ·exact .inl (nV (t:=[35,120]) hd rfl (by simp) rfl).1
 exact .inl (nV (t:=[]) hd rfl (by simp) rfl).1
theorem MJ(a b:List Pt)(k:List UInt8):eD (a++b) k=(eD a k || eD b k):=by unfold eD;rw[List.any_append]
def FV(n i:Nat)(u:Wu):Prop:=∃tl,tl<3/\u.o=iY (n-i)++[61]/\u.k=iY (n-i)/\u.c=10 :: oA tl
theorem zM{i:Nat}(hi:i<10):iY i=[107,UInt8.ofNat (48+i)]:=by unfold iY;rw[O5 hi];rfl
theorem LU{dE:List UInt8->Nat × Int}{d raw R p:List UInt8}{fuel a i:Nat}{s:PS}(hi:i<10)(hk:eD s.1 (iY i)=false)(hq:iA raw)(he:(dE raw).2=0)(hs:iL d a s p ((iY i++[61])++(raw++10 :: R))) :
  ∃s' e,e=a+3+raw.length/\s'=(s.1++[(false,[],p++(iY i++[61])),(true,iY i,raw)],e)/\dc dE d (fuel+1) a s=dc dE d fuel (e+1) s'/\iL d (e+1) s' [10] R:=by
 have hkk:=zM hi;have hnn:=zm hi;have hd:=hs.rest;have ho:(iY i++[61]).length=3:=by rw[hkk];rfl
 obtain⟨g1,g2,g3⟩:=hs.unit (iY i) (b:=a+3) (e:=a+3+raw.length) (by rw[ho]) rfl;rw[hkk]at hd;simp only[List.cons_append,List.nil_append]at hd;have hl:=congrArg List.length hd;simp at hl;have h0:¬d.length<=a:=by omega
 have h1:dR (d.drop a)=false:=by rw[hd];rfl
 have hkc:gu (UInt8.ofNat (48+i))=true:=by unfold gu;rw[hnn];exact decide_eq_true (by omega)
 have hn:bN (d.drop a)=2:=by
  rw[hd];unfold bN;rw[List.takeWhile_cons_of_pos rfl,List.takeWhile_cons_of_pos hkc,List.takeWhile_cons_of_neg (by decide)];rfl
 have hd2:d.drop (a+2)=61 :: (raw++10 :: R):=by rw[<-List.drop_drop,hd];rfl
 have hd3:d.drop (a+3)=raw++10 :: R:=by rw[<-List.drop_drop,hd];rfl
 have hc:aZ d a (a+2)=iY i:=by
  rw[hkk];exact zux (y:=61 :: (raw++10 :: R)) (by rw[hd];rfl) rfl
 have hm:min (a+3+raw.length+1) d.length=a+3+raw.length+1:=Nat.min_eq_left (by omega);have hr:=nT (dE:=dE) (fuel:=fuel) (s:=s) h0 h1 (by rw[hn,hd2];simp) (by rw[hn,hc];exact hk) (n:=2) (b:=a+3) (t:=a+3+raw.length) hn rfl (by rw[hd3,Mp hq]) (by rw[g3];exact he);rw[hc,hm,g1]at hr;rw[g1]at g2;exact⟨_,_,rfl,rfl,hr,by have:=iL.more (x:=[10]) g2;simpa using this⟩
theorem Nx{dE:List UInt8->Nat × Int}{d:List UInt8}{n:Nat}(hn:n<10):∀(us:List Wu) (i fuel a:Nat) (s:PS) (p:List UInt8),i+us.length=n->(∀j u,us[j]?=Yz u->FV n (i+j) u/\iA u.r/\(dE u.r).2=0)->(∀j,j<=n-i->eD s.1 (iY j)=false)->2*us.length<=fuel->iL d a s p (bX us)->∃s',dc dE d fuel a s=.ok s'/\cG d s'=s.1++bc p us
 | [],i,fuel,a,s,p,_,_,_,_,hs=>⟨s,lK hs.fin.1,hs.fin.2⟩
 | u :: us,i,fuel,a,s,p,hl,h,hk,hf,hs=>by
  obtain⟨⟨tl,h3,ho,nN,hc⟩,hq,he⟩:=h 0 u rfl;simp only[List.length_cons]at hl hf;rw[Nat.add_zero]at ho nN;obtain⟨m,rfl⟩:∃m,fuel=m+1+1:=⟨fuel-2,by omega⟩;rw[dY,ho,hc]at hs;obtain⟨s1,e,Bf,hs1,h1,hst⟩:=LU (dE:=dE) (fuel:=m+1) (i:=n-i) (by omega) (hk _ (Nat.le_refl _)) hq he hs
  have hk2:∀j,j<=n-(i+1)->eD s1.1 (iY j)=false:=λj hj=>by
   rw[hs1]
   show eD (s.1++_) (iY j)=false
   rw[MJ,hk j (by omega)]
   have hne:iY (n-i)≠iY j:=by
    rw[zM (by omega),zM (by omega)];intro e;simp only[List.cons.injEq,and_true,true_and]at e;have:=congrArg UInt8.toNat e
    rw[zm (by omega),zm (by omega)]at this;omega
   simp[eD,hne]
  have iV:=hst.more (x:=oA tl);have fin:∀s' p',cG d s'=s1.1++bc p' us->p'=u.c->cG d s'=s.1++bc p (u :: us):=λs' p' g hp=>by rw[g,hs1,hp,bc,ho,nN];simp
  have hsh:∀j v,us[j]?=Yz v->FV n (i+1+j) v/\iA v.r/\(dE v.r).2=0:=λj v hv=>by
   have:=h (j+1) v hv
   rwa [show i+(j+1)=i+1+j by omega]at this
  rw[h1];rcases LJ (dE:=dE) (fuel:=m) (s:=s1) h3 hst.rest with h2|h2
  ·obtain⟨s',k1,k2⟩:=Nx hn us (i+1) m _ s1 _ (by omega) hsh hk2 (by omega) iV;exact⟨s',by rw[h2,k1],fin s' _ k2 (by rw[hc];rfl)⟩
  obtain⟨s',k1,k2⟩:=Nx hn us (i+1) (m+1) _ s1 _ (by omega) hsh hk2 (by omega) iV;exact⟨s',by rw[h2,k1],fin s' _ k2 (by rw[hc];rfl)⟩
theorem xw:∀ {us:List Wu} {n i:Nat},(∀j u,us[j]?=Yz u->FV n (i+j) u)->2*us.length<=(bX us).length
 | [],_,_,_=>by simp
 | u :: us,n,i,h=>by
  obtain⟨tl,_,ho,_,hc⟩:=h 0 u rfl
  have ih:=xw (us:=us) (n:=n) (i:=i+1) λj v hv=>by
   have:=h (j+1) v hv
   rwa [show i+(j+1)=i+1+j by omega]at this
  rw[dY,ho,hc];simp[iY];omega
theorem LC{dE:List UInt8->Nat × Int}{d:List UInt8}{h:Nat}{us:List Wu}(hh:h<3)(hl:us.length<10)(hu:∀i u,us[i]?=Yz u->FV us.length i u/\iA u.r/\(dE u.r).2=0)(hz:d.length<=65536)(hd:d=jZ h++bX us):lk dE d=(bc (jZ h) us,0,0):=by
 have hlen:=congrArg List.length hd;rw[List.length_append]at hlen;have h2:=xw (us:=us) (n:=us.length) (i:=0) λj u hj=>by rw[Nat.zero_add];exact(hu j u hj).1
 have hend:∀fuel,2*us.length<=fuel->∃s',dc dE d fuel (jZ h).length ([],0)=.ok s'/\cG d s'=bc (jZ h) us:=λfuel hf=>by
  obtain⟨s',k1,k2⟩:=Nx (dE:=dE) (d:=d) hl us 0 fuel (jZ h).length ([],0) (jZ h) (by omega) (λj u hj=>by rw[Nat.zero_add];exact hu j u hj) (λj _=>rfl) hf ⟨by simp,by simpa using hd⟩;exact⟨s',k1,by simpa using k2⟩
 have key:∃s',dc dE d (d.length+1) 0 ([],0)=.ok s'/\cG d s'=bc (jZ h) us:=by
  rcases(show h=0\/h=1\/h=2 by omega)with rfl|rfl|rfl
  ·exact hend (d.length+1) (by omega)
  ·have e:(jZ 1).length=4:=rfl;obtain⟨m,hm⟩:∃m,d.length=m+1:=⟨d.length-1,by omega⟩;obtain⟨h1,hd1⟩:=nV (dE:=dE) (d:=d) (fuel:=m+1) (a:=0) (s:=([],0)) (t:=[35,32,99]) (R:=bX us) (by rw[List.drop_zero];exact hd) rfl (by simp) rfl;rw[hm,h1];exact hend _ (by omega)
  have e:(jZ 2).length=3:=rfl;obtain⟨m,hm⟩:∃m,d.length=m+1+1:=⟨d.length-2,by omega⟩;obtain⟨h1,hd1⟩:=nV (dE:=dE) (d:=d) (fuel:=m+1+1) (a:=0) (s:=([],0)) (t:=[]) (R:=[32]++10 :: bX us) (by rw[List.drop_zero];exact hd) rfl (by simp) rfl;obtain⟨h3,hd3⟩:=nV (dE:=dE) (d:=d) (fuel:=m+1) (s:=([],0)) (t:=[32]) hd1 rfl (by simp) rfl;rw[hm,h1,h3];exact hend _ (by omega)
 obtain⟨s',k1,k2⟩:=key;rw[qx (by omega),k1]
 show(cG d s',0,0)=_
 rw[k2]
end Go.Proofs.YthoemdibbldndaaGreatDoor.St
namespace Go.Proofs.YthoemdibbldndaaGreatDoor.St
def mn(au:Nat):List UInt8:=if au=0 then[116,101,120,116]else if au=1 then[105,100,44,116,101,120,116]else[34,97,44,98,34,44,116,101,120,116,44,99]
def jz(au:Nat):List UInt8:=if au=0 then[]else if au=1 then[55,44]else[120,44]
def iM(au:Nat):List UInt8:=if au=0 then[]else if au=1 then[]else[44,34,121,34]
def nF(b:List UInt8):Prop:=∀l,bD (b++l)=(bD l).map (·+b.length)
theorem GH:nF []:=λl=>by simp
theorem rE{a b:List UInt8}(ha:nF a)(hb:nF b):nF (a++b):=by
 intro l;rw[List.append_assoc,ha,hb,Option.map_map];congr 1
 funext x
 simp only[Function.comp,List.length_append];omega
theorem nh{c:UInt8}(h:c.toNat≠34):nF [c]:=by
 intro l
 show bD (c :: l)=_
 rw[bD.eq_def];simp only[];rw[if_neg h];rfl
theorem GG:∀ {b:List UInt8},(∀c∈b,c.toNat≠34)->nF b
 | [],_=>GH
 | c :: b,h=>rE (nh (h c (by simp))) (GG (λd hd=>h d (by simp[hd])))
theorem PI:nF [34,34]:=by
 intro l
 show bD (34 :: 34 :: l)=_
 simp only[bD,List.length_cons,List.length_nil];rw[if_pos (by decide),if_pos (by decide)]
theorem Py{t:List UInt8}(h:aF t=true):∀c∈t,c.toNat≠34:=by
 cases t with
 | nil=>intro c hc;cases hc
 | cons a r=>
  simp only[aF,Bool.and_eq_true,decide_eq_true_eq,List.all_eq_true]at h;intro c hc;rcases List.mem_cons.1 hc with rfl|hc
  ·have:=h.2.1
   intro e;simp only[lD,decide_eq_true_eq]at this;omega
  have:=h.2.2 c hc
  intro e;simp only[fl,decide_eq_true_eq]at this;omega
theorem Le{p:It}(h:oO p):nF (aL 3 p):=by
 rcases h with⟨c,rfl⟩|⟨t,rfl,ht⟩
 ·have e:aL 3 (1,[c],0)=bl 3 c:=by simp[aL]
  rw[e]
  by_cases rl:c.toNat=34
  ·have hc:c=34:=by apply UInt8.toNat_inj.1;simpa using rl
   subst hc;have e2:bl 3 34=[34,34]:=by decide
   rw[e2];exact PI
  by_cases cU:c.toNat=123
  ·have e2:bl 3 c=[c,c]:=by unfold bl;simp[cU]
   rw[e2];exact rE (nh rl) (nh rl)
  have e2:bl 3 c=[c]:=by unfold bl;simp[rl,cU]
  rw[e2];exact nh rl
 have e:aL 3 (5,t,0)=123 :: (t++[125]):=by simp[aL]
 rw[e];exact rE (a:=[123]) (nh (by decide)) (rE (GG (Py ht)) (nh (by decide)))
theorem Ev:∀ {ps:List (List UInt8 × It)},(∀p∈ps,nF p.1)->nF (a6 ps)
 | [],_=>GH
 | p :: ps,h=>rE (h p (by simp)) (Ev (λq hq=>h q (by simp[hq])))
def yX(R:List UInt8):Prop:=R=[]\/∃r,R=10 :: r
theorem Fp{raw R:List UInt8}(h:nF raw)(hR:eh R=true):bD (raw++34 :: R)=Yz (raw.length+1):=by
 rw[h]
 have:bD (34 :: R)=Yz 1:=by
  rw[bD.eq_def];simp only[];rw[if_pos (by decide)];cases R with
  | nil=>rfl
  | cons d r=>
   have:d.toNat≠34:=by
    simp only[eh,decide_eq_true_eq]at hR;omega
   simp only[];rw[if_neg this]
 rw[this];simp[Nat.add_comm]
theorem ma{raw R:List UInt8}(h:nF raw)(hR:eh R=true):cV (34 :: (raw++34 :: R))=Yz (raw.length+2,true):=by
 simp only[cV];rw[if_pos (by decide),Fp h hR];simp only[]
 have:(raw++34 :: R).drop (raw.length+1)=R:=by
  rw[<-List.drop_drop,List.drop_left];rfl
 rw[this,if_pos hR]
theorem wS{R:List UInt8}(h:yX R):eh R=true:=by
 rcases h with rfl|⟨r,rfl⟩<;>rfl
def uT(au:Nat):Nat:=if au=0 then 1 else if au=1 then 2 else 3
def C4(au:Nat):Nat:=if au=0 then 0 else 1
theorem KB{au:Nat}{R:List UInt8}(hc:au<3)(hR:yX R)(fuel:Nat):fk (mn au++R) (fuel+3) 0 0 0 0=.ok ((mn au).length,uT au,1,C4 au):=by
 rcases(show au=0\/au=1\/au=2 by omega)with rfl|rfl|rfl<;>rcases hR with rfl|⟨r,rfl⟩<;>rfl
section
variable {dE:List UInt8->Nat × Int} {d:List UInt8} {W C:Nat} {key:List UInt8}
theorem Lf{fuel a n k:Nat}{q:Bool}{s:PS}(h:cV (d.drop a)=Yz (k,q))(hb:¬(W<=n\/(n=C/\q=false)))(he:¬(n=C/\(dE (aZ d (a+1) (a+k-1))).2≠0)):dw dE d W C key (fuel+1) a n s=match d.drop (a+k)with
   | []=>.ok (a+k,n+1,if n=C then bk d s (a+1) (a+k-1) key else s)
   | c :: _=>if c.toNat=10 then .ok (a+k,n+1,if n=C then bk d s (a+1) (a+k-1) key else s)else dw dE d W C key fuel (a+k+1) (n+1) (if n=C then bk d s (a+1) (a+k-1) key else s):=by
 rw[dw,h];simp only[];rw[if_neg hb,if_neg he];cases d.drop (a+k)<;>rfl
theorem wL{fuel a n k:Nat}{q:Bool}{s:PS}{f R:List UInt8}(hd:d.drop a=f++R)(hk:f.length=k)(hR:yX R)(h:cV (f++R)=Yz (k,q))(hb:¬(W<=n\/(n=C/\q=false)))(he:¬(n=C/\(dE (aZ d (a+1) (a+k-1))).2≠0)):dw dE d W C key (fuel+1) a n s=.ok (a+k,n+1,if n=C then bk d s (a+1) (a+k-1) key else s):=by
 rw[Lf (by rw[hd];exact h) hb he];have:d.drop (a+k)=R:=by rw[<-List.drop_drop,hd,<-hk,List.drop_left]
 rw[this];rcases hR with rfl|⟨r,rfl⟩<;>rfl
theorem wM{fuel a n k:Nat}{q:Bool}{s:PS}{f R:List UInt8}(hd:d.drop a=f++44 :: R)(hk:f.length=k)(h:cV (f++44 :: R)=Yz (k,q))(hb:¬(W<=n\/(n=C/\q=false)))(he:¬(n=C/\(dE (aZ d (a+1) (a+k-1))).2≠0)):dw dE d W C key (fuel+1) a n s=dw dE d W C key fuel (a+k+1) (n+1) (if n=C then bk d s (a+1) (a+k-1) key else s)/\d.drop (a+k+1)=R:=by
 rw[Lf (by rw[hd];exact h) hb he];have:d.drop (a+k)=44 :: R:=by rw[<-List.drop_drop,hd,<-hk,List.drop_left]
 have h2:d.drop (a+k+1)=R:=by rw[<-List.drop_drop,this];rfl
 rw[this];exact⟨rfl,h2⟩
end
theorem R5{x y n:Nat}{s t:PS}(h1:x=y)(h2:s=t):(.ok (x,n,s):Except (Nat × Int) (Nat × Nat × PS))=.ok (y,n,t):=by rw[h1,h2]
theorem wU{d key:List UInt8}{s:PS}{a b a' b':Nat}(h1:a=a')(h2:b=b'):bk d s a b key=bk d s a' b' key:=by rw[h1,h2]
theorem O3{d raw R:List UInt8}{a:Nat}(hd:d.drop a=34 :: (raw++34 :: R)):aZ d (a+1) (a+(raw.length+2)-1)=raw:=by
 refine zux (y:=34 :: R) ?_ (by omega);rw[<-List.drop_drop,hd];rfl
theorem Np{dE:List UInt8->Nat × Int}{d key raw R:List UInt8}{au:Nat}(hc:au<3)(a fuel:Nat)(s:PS)(hq:nF raw)(he:(dE raw).2=0)(hR:yX R)(hd:d.drop a=jz au++34 :: (raw++34 :: (iM au++R))) :
  dw dE d (uT au) (C4 au) key (fuel+3) a 0 s=.ok (a+((jz au).length+(raw.length+2)+(iM au).length),uT au,bk d s (a+(jz au).length+1) (a+(jz au).length+1+raw.length) key):=by
 have hne:∀n a',d.drop a'=34 :: (raw++34 :: (iM au++R))->¬(n=C4 au/\(dE (aZ d (a'+1) (a'+(raw.length+2)-1))).2≠0):=by
  intro n a' h';rw[O3 h',he];simp
 rcases(show au=0\/au=1\/au=2 by omega)with rfl|rfl|rfl
 ·have hd0:d.drop a=(34 :: (raw++[34]))++R:=by rw[hd];simp[jz,iM]
  have h:=wL (dE:=dE) (W:=1) (C:=0) (key:=key) (fuel:=fuel+2) (n:=0) (k:=raw.length+2) (q:=true) (s:=s) hd0 (by simp) hR (by simpa using ma hq (wS hR)) (by simp) (hne 0 a hd);rw[if_pos rfl]at h
  show dw dE d 1 0 key (fuel+2+1) a 0 s=.ok (a+(0+(raw.length+2)+0),1,bk d s (a+0+1) (a+0+1+raw.length) key)
  rw[h];exact R5 (by omega) (wU (by omega) (by omega))
 ·have hd0:d.drop a=[55]++44 :: (34 :: (raw++34 :: R)):=by rw[hd];simp[jz,iM]
  obtain⟨h1,hd1⟩:=wM (dE:=dE) (W:=2) (C:=1) (key:=key) (fuel:=fuel+2) (n:=0) (k:=1) (q:=false) (s:=s) hd0 rfl rfl (by simp) (by simp);have hd2:d.drop (a+1+1)=(34 :: (raw++[34]))++R:=by rw[hd1];simp
  have h:=wL (dE:=dE) (W:=2) (C:=1) (key:=key) (fuel:=fuel+1) (n:=1) (k:=raw.length+2) (q:=true) (s:=s) hd2 (by simp) hR (by simpa using ma hq (wS hR)) (by simp) (hne 1 _ (by rw[hd1];simp[iM]));rw[if_pos rfl]at h;rw[if_neg (by decide)]at h1
  show dw dE d 2 1 key (fuel+2+1) a 0 s=.ok (a+(2+(raw.length+2)+0),2,bk d s (a+2+1) (a+2+1+raw.length) key)
  rw[h1,h];exact R5 (by omega) (wU (by omega) (by omega))
 have hd0:d.drop a=[120]++44 :: (34 :: (raw++34 :: ([44,34,121,34]++R))):=by rw[hd];simp[jz,iM]
 obtain⟨h1,hd1⟩:=wM (dE:=dE) (W:=3) (C:=1) (key:=key) (fuel:=fuel+2) (n:=0) (k:=1) (q:=false) (s:=s) hd0 rfl rfl (by simp) (by simp);have hd2:d.drop (a+1+1)=(34 :: (raw++[34]))++44 :: ([34,121,34]++R):=by rw[hd1];simp
 obtain⟨h2,hd3⟩:=wM (dE:=dE) (W:=3) (C:=1) (key:=key) (fuel:=fuel+1) (n:=1) (k:=raw.length+2) (q:=true) (s:=s) hd2 (by simp) (by simpa using ma hq (R:=44 :: 34 :: 121 :: 34 :: R) rfl) (by simp) (hne 1 _ (by rw[hd1];simp[iM]));rw[if_pos rfl]at h2;rw[if_neg (by decide)]at h1;have h:=wL (dE:=dE) (W:=3) (C:=1) (key:=key) (fuel:=fuel) (n:=2) (k:=3) (q:=true) (s:=bk d s (a+1+1+1) (a+1+1+(raw.length+2)-1) key) hd3 rfl hR (by simpa using ma (raw:=[121]) (nh (by decide)) (wS hR)) (by simp) (by simp);rw[if_neg (by decide)]at h
 show dw dE d 3 1 key (fuel+2+1) a 0 s=.ok (a+(2+(raw.length+2)+4),3,bk d s (a+2+1) (a+2+1+raw.length) key)
 rw[h1,h2,h];exact R5 (by omega) (wU (by omega) (by omega))
section
variable {dE:List UInt8->Nat × Int} {dig:Nat->List UInt8} {d:List UInt8}
theorem PK{W C:Nat}(fuel a r:Nat)(s:PS)(h:d.length<=a):cF dE dig d W C fuel a r s=.ok s:=by
 cases fuel with
 | zero=>rfl
 | succ f=>rw[cF,if_pos h]
theorem PM{W C fuel a r e n:Nat}{s s':PS}(h:¬d.length<=a)(hr:dw dE d W C (dig r) (d.length+1) a 0 s=.ok (e,n,s'))(hn:¬n<W):cF dE dig d W C (fuel+1) a r s=cF dE dig d W C fuel (e+1) (r+1) s':=by
 rw[cF,if_neg h,hr];simp only[];rw[if_neg hn]
def FW(dig:Nat->List UInt8)(au i:Nat)(u:Wu):Prop:=u.o=[10]++jz au++[34]/\u.k=dig (i+1)/\u.c=34 :: iM au
theorem Sf{au:Nat}(hc:au<3):∀(us:List Wu) (fuel a r:Nat) (s:PS) (p:List UInt8),(∀i u,us[i]?=Yz u->FW dig au (r+i) u/\nF u.r/\(dE u.r).2=0)->us.length<=fuel->iL d a s p (bX us)->∃s',cF dE dig d (uT au) (C4 au) fuel (a+1) (r+1) s=.ok s'/\cG d s'=s.1++bc p us
 | [],fuel,a,r,s,p,_,_,hs=>⟨s,PK _ _ _ _ (by have:=hs.fin.1;omega),hs.fin.2⟩
 | u :: us,0,a,r,s,p,_,hf,_=>by simp at hf
 | u :: us,fuel+1,a,r,s,p,h,hf,hs=>by
  obtain⟨⟨ho,hk,hcl⟩,hq,he⟩:=h 0 u rfl
  have hsh:∀i v,us[i]?=Yz v->FW dig au (r+1+i) v/\nF v.r/\(dE v.r).2=0:=λi v hv=>by
   have:=h (i+1) v hv
   rwa [show r+(i+1)=r+1+i by omega]at this
  have hR:yX (bX us):=by
   cases us with
   | nil=>exact .inl rfl
   | cons v us=>
    obtain⟨⟨hv,_⟩,_⟩:=hsh 0 v rfl;exact .inr ⟨jz au++([34]++(v.r++(v.c++bX us))),by rw[dY,hv];simp⟩
  rw[dY]at hs;have hol:u.o.length=1+(jz au).length+1:=by rw[ho];simp;omega
  have hd1:d.drop (a+1)=jz au++34 :: (u.r++34 :: (iM au++bX us)):=by
   rw[<-List.drop_drop,hs.rest,ho,hcl];simp
  have hl:=congrArg List.length hd1;simp at hl;obtain⟨m,hm⟩:∃m,d.length+1=m+3:=⟨d.length-2,by omega⟩;have h1:=Np (dE:=dE) (d:=d) (key:=dig (r+1)) hc (a+1) m s hq he hR hd1;rw[<-hm]at h1;obtain⟨g1,g2,_⟩:=hs.unit (dig (r+1)) (b:=a+1+(jz au).length+1) (e:=a+1+(jz au).length+1+u.r.length) (by omega) rfl;have g3:=g2.more;rw[List.nil_append]at g3;have ml:u.c.length=1+(iM au).length:=by rw[hcl];simp;omega
  obtain⟨s',k1,k2⟩:=Sf hc us fuel _ (r+1) _ _ hsh (by simpa using hf) g3;refine⟨s',?_,?_⟩
  ·rw[PM (by omega) h1 (by omega),<-k1];congr 1;omega
  rw[k2,g1,bc,hk,Nat.add_zero];simp
theorem LD{au:Nat}{us:List Wu}(hc:au<3)(hu:∀i u,us[i]?=Yz u->FW dig au i u/\nF u.r/\(dE u.r).2=0)(hl:d.length<=65536)(hd:d=mn au++bX us):eM dE dig d=(bc (mn au) us,0,0):=by
 have hR:yX (bX us):=by
  cases us with
  | nil=>exact .inl rfl
  | cons v us=>
   obtain⟨⟨hv,_⟩,_⟩:=hu 0 v rfl;exact .inr ⟨jz au++([34]++(v.r++(v.c++bX us))),by rw[dY,hv];simp⟩
 have hlen:=congrArg List.length hd;rw[List.length_append]at hlen;have h4:4<=(mn au).length:=by unfold mn;split;decide;split<;>decide
 obtain⟨m,hm⟩:∃m,d.length+1=m+3:=⟨d.length-2,by omega⟩
 have hh:fk d (d.length+1) 0 0 0 0=.ok ((mn au).length,uT au,1,C4 au):=by
  rw[hm];conv=>lhs;rw[hd]
  exact KB hc hR m
 have hrl:∀ {us:List Wu} {k:Nat},(∀i u,us[i]?=Yz u->FW dig au (k+i) u)->us.length<=(bX us).length:=fun {us}=>by
  induction us with
  | nil=>intro k _;simp
  | cons x l ih=>
   intro k h;obtain⟨ho,_⟩:=h 0 x rfl
   have:=ih (k:=k+1) λi v hv=>by
    have:=h (i+1) v hv
    rwa [show k+(i+1)=k+1+i by omega]at this
   rw[dY,ho];simp;omega
 have hr:=hrl (us:=us) (k:=0) λi u hi=>by rw[Nat.zero_add];exact(hu i u hi).1
 obtain⟨s',k1,k2⟩:=Sf (dE:=dE) (dig:=dig) (d:=d) hc us (d.length+1) (mn au).length 0 ([],0) (mn au) (λi u hi=>by rw[Nat.zero_add];exact hu i u hi) (by omega) ⟨by simp,by simpa using hd⟩;rw[eM,if_neg (by omega),hh];simp only[];rw[if_neg (by decide),if_neg (by decide),k1]
 show(cG d s',0,0)=_
 rw[k2];rfl
end
end Go.Proofs.YthoemdibbldndaaGreatDoor.St
