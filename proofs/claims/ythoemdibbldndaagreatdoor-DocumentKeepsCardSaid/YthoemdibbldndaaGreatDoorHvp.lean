/- Plain: a document as the maker writes it, part for part: what splitting gives, in the. -/
import Derived.Test.YthoemdibbldndaaGreatDoorRsA
import Derived.Test.YthoemdibbldndaaGreatDoorPlr
set_option linter.all false
open Option renaming some->Yr
namespace Go.Proofs.YthoemdibbldndaaGreatDoor.St
structure Wu where
 o:List UInt8
 k:List UInt8
 r:List UInt8
 c:List UInt8
def bW(us:List Wu):List UInt8:=us.flatMap λu=>u.o++(u.r++u.c)
def bo:List UInt8->List Wu->List Pt
 | p,[]=>[(false,[],p)]
 | p,u :: us=>(false,[],p++u.o) :: (true,u.k,u.r) :: bo u.c us
theorem dX(u:Wu)(us:List Wu):bW (u :: us)=u.o++(u.r++(u.c++bW us)):=by simp[bW]
theorem kq:∀(us:List Wu) (p:List UInt8),b6 (bo p us)=p++bW us
 | [],p=>by simp[bo,bW,b6]
 | u :: us,p=>by
  have:=kq us u.c
  rw[dX];simp only[b6,bo,List.flatMap_cons]at this |-;rw[this];simp
theorem qu(us:List Wu)(u:Wu):bW (us++[u])=bW us++(u.o++(u.r++u.c)):=by simp[bW]
theorem we{P:Nat->Wu->Prop}{us:List Wu}{u:Wu}(h:∀j v,us[j]?=Yr v->P j v)(hu:P us.length u):∀j v,(us++[u])[j]?=Yr v->P j v:=by
 intro j v hv
 by_cases hj:j<us.length
 ·rw[List.getElem?_append_left hj]at hv;exact h j v hv
 rw[List.getElem?_append_right (by omega)]at hv;obtain⟨k,hk⟩:∃k,j-us.length=k:=⟨_,rfl⟩;rw[hk]at hv;cases k with
 | zero=>
  simp at hv;subst hv;rw[show j=us.length by omega];exact hu
 | succ k=>simp at hv
def iE(d:List UInt8)(a:Nat)(s:PS)(p R:List UInt8):Prop:=a=s.2+p.length/\d.drop s.2=p++R
section
variable {d p R x o r:List UInt8} {a:Nat} {s:PS}
theorem iE.rest(h:iE d a s p R):d.drop a=R:=by
 obtain⟨rfl,h⟩:=h;rw[<-List.drop_drop,h,List.drop_left]
theorem iE.more(h:iE d a s p (x++R)):iE d (a+x.length) s (p++x) R:=by
 obtain⟨rfl,h⟩:=h;exact⟨by simp;omega,by rw[h];simp⟩
theorem uA{d x y:List UInt8}{a b:Nat}(h:d.drop a=x++y)(hb:b=a+x.length):a6 d a b=x:=by
 subst hb;exact Cq h
theorem iE.unit(h:iE d a s p (o++(r++R)))(key:List UInt8){b e:Nat}(hb:b=a+o.length)(he:e=b+r.length) :
  bi d s b e key=(s.1++[(false,[],p++o),(true,key,r)],e)/\iE d e (bi d s b e key) [] R/\a6 d b e=r:=by
 have h1:=h.more.rest;obtain⟨rfl,h0⟩:=h;have c1:a6 d s.2 b=p++o:=uA (y:=r++R) (by rw[h0];simp) (by simp;omega);have c2:a6 d b e=r:=uA (y:=R) (by rw[hb];exact h1) he;have e1:bi d s b e key=(s.1++[(false,[],p++o),(true,key,r)],e):=by unfold bi;rw[c1,c2]
 refine⟨e1,?_,c2⟩;rw[e1];refine⟨by simp,?_⟩
 show d.drop e=[]++R
 rw[he,<-List.drop_drop,hb,h1,List.drop_left];rfl
theorem iE.fin(h:iE d a s p []):d.length<=a/\cI d s=s.1++[(false,[],p)]:=by
 have h1:=h.rest;refine⟨by simpa using h1,?_⟩;unfold cI;rw[h.2,List.append_nil]
end
section
variable {dE:List UInt8->Nat × Int} {dig:Nat->List UInt8} {d:List UInt8}
def NG(dig:Nat->List UInt8)(i:Nat)(u:Wu):Prop:=∃nm at' tl,tl<3/\u.o=[60]++(jr nm++od at')++[62]/\u.k=dig (i+1)/\u.c=dn (jr nm)++lg tl
def Ll(r:List UInt8):Prop:=∀b,bC b=true->ta b r
theorem RN:∀(us:List Wu) (r a:Nat) (s:PS) (p:List UInt8),(∀i u,us[i]?=Yr u->NG dig (r+i) u/\Ll u.r/\(dE u.r).2=0)->iE d a s p (bW us)->∃s',n7 dE dig d a r s=.ok s'/\cI d s'=s.1++bo p us
 | [],r,a,s,p,_,hs=>⟨s,OV hs.fin.1,hs.fin.2⟩
 | u :: us,r,a,s,p,h,hs=>by
  obtain⟨⟨nm,at',tl,h3,ho,hk,hc⟩,hq,he⟩:=h 0 u rfl;obtain⟨hb,hcn,hn⟩:=Mn nm at';have hol:u.o.length=(jr nm++od at').length+2:=by rw[ho];simp;omega
  have hcl:u.c.length=(jr nm).length+3+(lg tl).length:=by rw[hc];simp[dn];omega
  rw[dX]at hs;have hd0:d.drop a=[60]++(jr nm++od at')++[62]++(u.r++(dn (jr nm)++(lg tl++bW us))):=by rw[hs.rest,ho,hc];simp
  obtain⟨h1,hd1,_⟩:=K5 (dE:=dE) (dig:=dig) (r:=r) (s:=s) hb hcn hn (hq _ hb) he hd0;rw[<-hol]at h1 hd1;obtain⟨g1,g2,_⟩:=hs.unit (dig (r+1)) rfl rfl;obtain⟨h4,_⟩:=KX (dE:=dE) (dig:=dig) (r:=r+1) (s:=bi d s (a+u.o.length) (a+u.o.length+u.r.length) (dig (r+1))) h3 hd1;have g3:=g2.more;rw[List.nil_append]at g3
  obtain⟨s',k1,k2⟩:=RN us (r+1) _ _ _ (λi v hv=>by
   have:=h (i+1) v hv
   rwa [show r+(i+1)=r+1+i by omega]at this) g3
  refine⟨s',?_,?_⟩
  ·rw[h1,h4,<-k1];congr 1;omega
  rw[k2,g1,bo,hk];simp
theorem KP{h:Nat}{us:List Wu}(hh:h<3)(hu:∀i u,us[i]?=Yr u->NG dig i u/\Ll u.r/\(dE u.r).2=0)(hz:d.length<=65536)(hd:d=jp h++bW us):ij dE dig d=(bo (jp h) us,0,0):=by
 obtain⟨h1,h2⟩:=nM (dE:=dE) (dig:=dig) (r:=0) (s:=([],0)) hh hd;obtain⟨s',k1,k2⟩:=RN (dE:=dE) (dig:=dig) (d:=d) us 0 (jp h).length ([],0) (jp h) (λi u hi=>by rw[Nat.zero_add];exact hu i u hi) ⟨by simp,by simpa using hd⟩;rw[KS (by omega),h1,k1]
 show(cI d s',0,0)=_
 rw[k2];rfl
end
end Go.Proofs.YthoemdibbldndaaGreatDoor.St
namespace Go.Proofs.YthoemdibbldndaaGreatDoor.St
def im(b:List UInt8):Prop:=∀l,dk (b++l)=b.length+dk l
theorem wZ:im []:=λl=>by simp
theorem nH{a b:List UInt8}(ha:im a)(hb:im b):im (a++b):=by
 intro l;rw[List.append_assoc,ha,hb,List.length_append];omega
theorem nI{c:UInt8}(h:c.toNat≠10)(h2:c.toNat≠92):im [c]:=by
 intro l
 show dk (c :: l)=1+dk l
 rw[dk.eq_def];simp only[];rw[if_neg h,if_neg h2]
theorem xa(c:UInt8):im [92,c]:=by
 intro l
 show dk (92 :: c :: l)=2+dk l
 rw[dk.eq_def];simp only[];rw[if_neg (by decide),if_pos (by decide)]
theorem Jp:∀ {b:List UInt8},(∀c∈b,c.toNat≠10/\c.toNat≠92)->im b
 | [],_=>wZ
 | c :: b,h=>nH (a:=[c]) (nI (h c (by simp)).1 (h c (by simp)).2) (Jp (λd hd=>h d (by simp[hd])))
theorem OY{t:List UInt8}(h:aE t=true):∀c∈t,c.toNat≠10/\c.toNat≠92:=by
 cases t with
 | nil=>cases h
 | cons c r=>
  rw[aE]at h;simp only[Bool.and_eq_true,decide_eq_true_eq,ls]at h;obtain⟨_,h1,h2⟩:=h;intro d hd;rcases List.mem_cons.1 hd with rfl|hd
  ·omega
  have:=List.all_eq_true.1 h2 d hd
  simp only[fi,decide_eq_true_eq]at this;omega
theorem OE(c:UInt8):im (bj 2 c):=by
 unfold bj;simp only[Int.reduceEq,if_false,if_true]
 repeat' split
 all_goals first|exact xa _|(refine nI ?_ ?_<;>omega)
theorem CC{p:It}(h:oK p):im (aK 2 p):=by
 rcases h with⟨c,rfl⟩|⟨t,rfl,ht⟩
 ·have e:aK 2 (1,[c],0)=bj 2 c:=by simp[aK]
  rw[e];exact OE c
 have e:aK 2 (5,t,0)=123 :: (t++[125]):=by simp[aK]
 rw[e];exact nH (a:=[123]) (nI (by decide) (by decide)) (nH (Jp (OY ht)) (nI (by decide) (by decide)))
theorem Jq{p:It}(h:oK p):im (cf (aK 2 p)):=by
 have h0:=CC h;cases hb:aK 2 p with
 | nil=>exact wZ
 | cons c r=>
  rw[hb]at h0;rw[cf]
  split
  ·rename_i uS
   have hr:im r:=by
    intro l;have:=h0 l
    rw[List.cons_append]at this;have h1:=nI (c:=c) (by omega) (by omega) (r++l);rw[List.singleton_append]at h1;rw[h1]at this;simp at this;omega
   exact nH (xa 115) hr
  exact h0
theorem LA(r:Nat):im (dK r):=by
 unfold dK
 repeat' split
 ·exact wZ
 ·exact nI (by decide) (by decide)
 exact nH (a:=[9]) (nI (by decide) (by decide)) (nI (by decide) (by decide))
theorem OF{p:It}{b:List UInt8}(h:oK p)(hf:jU 2 p b):im b:=by
 rcases hf with rfl|⟨h1,_⟩|⟨_,⟨_,_,rfl⟩|⟨r,_,rfl⟩⟩
 ·exact CC h
 ·exact absurd h1 (by decide)
 ·exact xa 115
 exact nH (nH (xa 10) (LA r)) (Jq h)
theorem Fg:∀ {ps:List (List UInt8 × It)},(∀p∈ps,im p.1)->im (a8 ps)
 | [],_=>wZ
 | p :: ps,h=>nH (h p (by simp)) (Fg (λq hq=>h q (by simp[hq])))
theorem Ly{raw:List UInt8}(h:im raw)(r:List UInt8):dk (raw++10 :: r)=raw.length:=by
 rw[h];have:dk (10 :: r)=0:=by rw[dk.eq_def];simp only[];rw[if_pos (by decide)]
 omega
theorem Ox{i:Nat}(h:i<10):Lib.decDigits i=[UInt8.ofNat (48+i)]:=Lib.decDigits_one h
theorem yy{i:Nat}(h:i<10):(UInt8.ofNat (48+i)).toNat=48+i:=UInt8.toNat_ofNat_of_lt' (by show 48+i<256;omega)
theorem nU{dE:List UInt8->Nat × Int}{d:List UInt8}{fuel a n:Nat}{s:PS}{t R:List UInt8}(hd:d.drop a=t++10 :: R)(hs:dQ (t++10 :: R)=true)(ht:∀c∈t,c.toNat≠10)(hn:n=a+t.length+1):de dE d (fuel+1) a s=de dE d fuel n s/\d.drop n=R:=by
 have hl:=congrArg List.length hd;simp at hl
 have sN:ck (d.drop a)=t.length:=by
  rw[hd];unfold ck;rw[List.takeWhile_append_of_pos (λc hc=>by simpa using ht c hc),List.takeWhile_cons_of_neg (by decide),List.append_nil]
 refine⟨?_,?_⟩
 ·rw[kt (by omega) (by rw[hd];exact hs),sN,<-hn,Nat.min_eq_left (by omega)]
 rw[hn,<-List.drop_drop,<-List.drop_drop,hd,List.drop_left];rfl
def jV(h:Nat):List UInt8:=if h=0 then[]else if h=1 then[35,32,99,10]else[10,32,10]
def oq(r:Nat):List UInt8:=if r=0 then[]else if r=1 then[35,120,10]else[10]
def iT(i:Nat):List UInt8:=[107]++Lib.decDigits i
theorem KW{dE:List UInt8->Nat × Int}{d R:List UInt8}{fuel a r:Nat}{s:PS}(hr:r<3)(hd:d.drop a=oq r++R):de dE d (fuel+1) a s=de dE d fuel (a+(oq r).length) s\/de dE d (fuel+1) a s=de dE d (fuel+1) (a+(oq r).length) s:=by
 rcases(show r=0\/r=1\/r=2 by omega)with rfl|rfl|rfl
 ·exact .inr rfl
 ·exact .inl (nU (t:=[35,120]) hd rfl (by simp) rfl).1
 exact .inl (nU (t:=[]) hd rfl (by simp) rfl).1
theorem LS(a b:List Pt)(k:List UInt8):eC (a++b) k=(eC a k || eC b k):=by unfold eC;rw[List.any_append]
def E5(n i:Nat)(u:Wu):Prop:=∃tl,tl<3/\u.o=iT (n-i)++[61]/\u.k=iT (n-i)/\u.c=10 :: oq tl
theorem yQ{i:Nat}(hi:i<10):iT i=[107,UInt8.ofNat (48+i)]:=by unfold iT;rw[Ox hi];rfl
theorem K4{dE:List UInt8->Nat × Int}{d raw R p:List UInt8}{fuel a i:Nat}{s:PS}(hi:i<10)(hk:eC s.1 (iT i)=false)(hq:im raw)(he:(dE raw).2=0)(hs:iE d a s p ((iT i++[61])++(raw++10 :: R))) :
  ∃s' e,e=a+3+raw.length/\s'=(s.1++[(false,[],p++(iT i++[61])),(true,iT i,raw)],e)/\de dE d (fuel+1) a s=de dE d fuel (e+1) s'/\iE d (e+1) s' [10] R:=by
 have hkk:=yQ hi;have hnn:=yy hi;have hd:=hs.rest;have ho:(iT i++[61]).length=3:=by rw[hkk];rfl
 obtain⟨g1,g2,g3⟩:=hs.unit (iT i) (b:=a+3) (e:=a+3+raw.length) (by rw[ho]) rfl;rw[hkk]at hd;simp only[List.cons_append,List.nil_append]at hd;have hl:=congrArg List.length hd;simp at hl;have h0:¬d.length<=a:=by omega
 have h1:dQ (d.drop a)=false:=by rw[hd];rfl
 have hkc:gj (UInt8.ofNat (48+i))=true:=by unfold gj;rw[hnn];exact decide_eq_true (by omega)
 have hn:bI (d.drop a)=2:=by
  rw[hd];unfold bI;rw[List.takeWhile_cons_of_pos rfl,List.takeWhile_cons_of_pos hkc,List.takeWhile_cons_of_neg (by decide)];rfl
 have hd2:d.drop (a+2)=61 :: (raw++10 :: R):=by rw[<-List.drop_drop,hd];rfl
 have hd3:d.drop (a+3)=raw++10 :: R:=by rw[<-List.drop_drop,hd];rfl
 have hc:a6 d a (a+2)=iT i:=by
  rw[hkk];exact uA (y:=61 :: (raw++10 :: R)) (by rw[hd];rfl) rfl
 have hm:min (a+3+raw.length+1) d.length=a+3+raw.length+1:=Nat.min_eq_left (by omega);have hr:=nS (dE:=dE) (fuel:=fuel) (s:=s) h0 h1 (by rw[hn,hd2];simp) (by rw[hn,hc];exact hk) (n:=2) (b:=a+3) (t:=a+3+raw.length) hn rfl (by rw[hd3,Ly hq]) (by rw[g3];exact he);rw[hc,hm,g1]at hr;rw[g1]at g2;exact⟨_,_,rfl,rfl,hr,by have:=iE.more (x:=[10]) g2;simpa using this⟩
theorem ML{dE:List UInt8->Nat × Int}{d:List UInt8}{n:Nat}(hn:n<10):∀(us:List Wu) (i fuel a:Nat) (s:PS) (p:List UInt8),i+us.length=n->(∀j u,us[j]?=Yr u->E5 n (i+j) u/\im u.r/\(dE u.r).2=0)->(∀j,j<=n-i->eC s.1 (iT j)=false)->2*us.length<=fuel->iE d a s p (bW us)->∃s',de dE d fuel a s=.ok s'/\cI d s'=s.1++bo p us
 | [],i,fuel,a,s,p,_,_,_,_,hs=>⟨s,lA hs.fin.1,hs.fin.2⟩
 | u :: us,i,fuel,a,s,p,hl,h,hk,hf,hs=>by
  obtain⟨⟨tl,h3,ho,nN,hc⟩,hq,he⟩:=h 0 u rfl;simp only[List.length_cons]at hl hf;rw[Nat.add_zero]at ho nN;obtain⟨m,rfl⟩:∃m,fuel=m+1+1:=⟨fuel-2,by omega⟩;rw[dX,ho,hc]at hs;obtain⟨s1,e,Al,hs1,h1,hst⟩:=K4 (dE:=dE) (fuel:=m+1) (i:=n-i) (by omega) (hk _ (Nat.le_refl _)) hq he hs
  have hk2:∀j,j<=n-(i+1)->eC s1.1 (iT j)=false:=λj hj=>by
   rw[hs1]
   show eC (s.1++_) (iT j)=false
   rw[LS,hk j (by omega)]
   have hne:iT (n-i)≠iT j:=by
    rw[yQ (by omega),yQ (by omega)];intro e;simp only[List.cons.injEq,and_true,true_and]at e;have:=congrArg UInt8.toNat e
    rw[yy (by omega),yy (by omega)]at this;omega
   simp[eC,hne]
  have iQ:=hst.more (x:=oq tl);have fin:∀s' p',cI d s'=s1.1++bo p' us->p'=u.c->cI d s'=s.1++bo p (u :: us):=λs' p' g hp=>by rw[g,hs1,hp,bo,ho,nN];simp
  have hsh:∀j v,us[j]?=Yr v->E5 n (i+1+j) v/\im v.r/\(dE v.r).2=0:=λj v hv=>by
   have:=h (j+1) v hv
   rwa [show i+(j+1)=i+1+j by omega]at this
  rw[h1];rcases KW (dE:=dE) (fuel:=m) (s:=s1) h3 hst.rest with h2|h2
  ·obtain⟨s',k1,k2⟩:=ML hn us (i+1) m _ s1 _ (by omega) hsh hk2 (by omega) iQ;exact⟨s',by rw[h2,k1],fin s' _ k2 (by rw[hc];rfl)⟩
  obtain⟨s',k1,k2⟩:=ML hn us (i+1) (m+1) _ s1 _ (by omega) hsh hk2 (by omega) iQ;exact⟨s',by rw[h2,k1],fin s' _ k2 (by rw[hc];rfl)⟩
theorem wM:∀ {us:List Wu} {n i:Nat},(∀j u,us[j]?=Yr u->E5 n (i+j) u)->2*us.length<=(bW us).length
 | [],_,_,_=>by simp
 | u :: us,n,i,h=>by
  obtain⟨tl,_,ho,_,hc⟩:=h 0 u rfl
  have ih:=wM (us:=us) (n:=n) (i:=i+1) λj v hv=>by
   have:=h (j+1) v hv
   rwa [show i+(j+1)=i+1+j by omega]at this
  rw[dX,ho,hc];simp[iT];omega
theorem KQ{dE:List UInt8->Nat × Int}{d:List UInt8}{h:Nat}{us:List Wu}(hh:h<3)(hl:us.length<10)(hu:∀i u,us[i]?=Yr u->E5 us.length i u/\im u.r/\(dE u.r).2=0)(hz:d.length<=65536)(hd:d=jV h++bW us):lc dE d=(bo (jV h) us,0,0):=by
 have hlen:=congrArg List.length hd;rw[List.length_append]at hlen;have h2:=wM (us:=us) (n:=us.length) (i:=0) λj u hj=>by rw[Nat.zero_add];exact(hu j u hj).1
 have hend:∀fuel,2*us.length<=fuel->∃s',de dE d fuel (jV h).length ([],0)=.ok s'/\cI d s'=bo (jV h) us:=λfuel hf=>by
  obtain⟨s',k1,k2⟩:=ML (dE:=dE) (d:=d) hl us 0 fuel (jV h).length ([],0) (jV h) (by omega) (λj u hj=>by rw[Nat.zero_add];exact hu j u hj) (λj _=>rfl) hf ⟨by simp,by simpa using hd⟩;exact⟨s',k1,by simpa using k2⟩
 have key:∃s',de dE d (d.length+1) 0 ([],0)=.ok s'/\cI d s'=bo (jV h) us:=by
  rcases(show h=0\/h=1\/h=2 by omega)with rfl|rfl|rfl
  ·exact hend (d.length+1) (by omega)
  ·have e:(jV 1).length=4:=rfl;obtain⟨m,hm⟩:∃m,d.length=m+1:=⟨d.length-1,by omega⟩;obtain⟨h1,hd1⟩:=nU (dE:=dE) (d:=d) (fuel:=m+1) (a:=0) (s:=([],0)) (t:=[35,32,99]) (R:=bW us) (by rw[List.drop_zero];exact hd) rfl (by simp) rfl;rw[hm,h1];exact hend _ (by omega)
  have e:(jV 2).length=3:=rfl;obtain⟨m,hm⟩:∃m,d.length=m+1+1:=⟨d.length-2,by omega⟩;obtain⟨h1,hd1⟩:=nU (dE:=dE) (d:=d) (fuel:=m+1+1) (a:=0) (s:=([],0)) (t:=[]) (R:=[32]++10 :: bW us) (by rw[List.drop_zero];exact hd) rfl (by simp) rfl;obtain⟨h3,hd3⟩:=nU (dE:=dE) (d:=d) (fuel:=m+1) (s:=([],0)) (t:=[32]) hd1 rfl (by simp) rfl;rw[hm,h1,h3];exact hend _ (by omega)
 obtain⟨s',k1,k2⟩:=key;rw[qj (by omega),k1]
 show(cI d s',0,0)=_
 rw[k2]
end Go.Proofs.YthoemdibbldndaaGreatDoor.St
namespace Go.Proofs.YthoemdibbldndaaGreatDoor.St
def mg(au:Nat):List UInt8:=if au=0 then[116,101,120,116]else if au=1 then[105,100,44,116,101,120,116]else[34,97,44,98,34,44,116,101,120,116,44,99]
def ju(au:Nat):List UInt8:=if au=0 then[]else if au=1 then[55,44]else[120,44]
def iG(au:Nat):List UInt8:=if au=0 then[]else if au=1 then[]else[44,34,121,34]
def nG(b:List UInt8):Prop:=∀l,bB (b++l)=(bB l).map (·+b.length)
theorem FX:nG []:=λl=>by simp
theorem rm{a b:List UInt8}(ha:nG a)(hb:nG b):nG (a++b):=by
 intro l;rw[List.append_assoc,ha,hb,Option.map_map];congr 1
 funext x
 simp only[Function.comp,List.length_append];omega
theorem ng{c:UInt8}(h:c.toNat≠34):nG [c]:=by
 intro l
 show bB (c :: l)=_
 rw[bB.eq_def];simp only[];rw[if_neg h];rfl
theorem FW:∀ {b:List UInt8},(∀c∈b,c.toNat≠34)->nG b
 | [],_=>FX
 | c :: b,h=>rm (ng (h c (by simp))) (FW (λd hd=>h d (by simp[hd])))
theorem O7:nG [34,34]:=by
 intro l
 show bB (34 :: 34 :: l)=_
 simp only[bB,List.length_cons,List.length_nil];rw[if_pos (by decide),if_pos (by decide)]
theorem OX{t:List UInt8}(h:aE t=true):∀c∈t,c.toNat≠34:=by
 cases t with
 | nil=>intro c hc;cases hc
 | cons a r=>
  simp only[aE,Bool.and_eq_true,decide_eq_true_eq,List.all_eq_true]at h;intro c hc;rcases List.mem_cons.1 hc with rfl|hc
  ·have:=h.2.1
   intro e;simp only[ls,decide_eq_true_eq]at this;omega
  have:=h.2.2 c hc
  intro e;simp only[fi,decide_eq_true_eq]at this;omega
theorem Ks{p:It}(h:oK p):nG (aK 3 p):=by
 rcases h with⟨c,rfl⟩|⟨t,rfl,ht⟩
 ·have e:aK 3 (1,[c],0)=bj 3 c:=by simp[aK]
  rw[e]
  by_cases qT:c.toNat=34
  ·have hc:c=34:=by apply UInt8.toNat_inj.1;simpa using qT
   subst hc;have e2:bj 3 34=[34,34]:=by decide
   rw[e2];exact O7
  by_cases cV:c.toNat=123
  ·have e2:bj 3 c=[c,c]:=by unfold bj;simp[cV]
   rw[e2];exact rm (ng qT) (ng qT)
  have e2:bj 3 c=[c]:=by unfold bj;simp[qT,cV]
  rw[e2];exact ng qT
 have e:aK 3 (5,t,0)=123 :: (t++[125]):=by simp[aK]
 rw[e];exact rm (a:=[123]) (ng (by decide)) (rm (FW (OX ht)) (ng (by decide)))
theorem DC:∀ {ps:List (List UInt8 × It)},(∀p∈ps,nG p.1)->nG (a8 ps)
 | [],_=>FX
 | p :: ps,h=>rm (h p (by simp)) (DC (λq hq=>h q (by simp[hq])))
def yp(R:List UInt8):Prop:=R=[]\/∃r,R=10 :: r
theorem Ez{raw R:List UInt8}(h:nG raw)(hR:ef R=true):bB (raw++34 :: R)=Yr (raw.length+1):=by
 rw[h]
 have:bB (34 :: R)=Yr 1:=by
  rw[bB.eq_def];simp only[];rw[if_pos (by decide)];cases R with
  | nil=>rfl
  | cons d r=>
   have:d.toNat≠34:=by
    simp only[ef,decide_eq_true_eq]at hR;omega
   simp only[];rw[if_neg this]
 rw[this];simp[Nat.add_comm]
theorem l3{raw R:List UInt8}(h:nG raw)(hR:ef R=true):cX (34 :: (raw++34 :: R))=Yr (raw.length+2,true):=by
 simp only[cX];rw[if_pos (by decide),Ez h hR];simp only[]
 have:(raw++34 :: R).drop (raw.length+1)=R:=by
  rw[<-List.drop_drop,List.drop_left];rfl
 rw[this,if_pos hR]
theorem wg{R:List UInt8}(h:yp R):ef R=true:=by
 rcases h with rfl|⟨r,rfl⟩<;>rfl
def um(au:Nat):Nat:=if au=0 then 1 else if au=1 then 2 else 3
def Cp(au:Nat):Nat:=if au=0 then 0 else 1
theorem JQ{au:Nat}{R:List UInt8}(hc:au<3)(hR:yp R)(fuel:Nat):fh (mg au++R) (fuel+3) 0 0 0 0=.ok ((mg au).length,um au,1,Cp au):=by
 rcases(show au=0\/au=1\/au=2 by omega)with rfl|rfl|rfl<;>rcases hR with rfl|⟨r,rfl⟩<;>rfl
section
variable {dE:List UInt8->Nat × Int} {d:List UInt8} {W C:Nat} {key:List UInt8}
theorem Kt{fuel a n k:Nat}{q:Bool}{s:PS}(h:cX (d.drop a)=Yr (k,q))(hb:¬(W<=n\/(n=C/\q=false)))(he:¬(n=C/\(dE (a6 d (a+1) (a+k-1))).2≠0)):dv dE d W C key (fuel+1) a n s=match d.drop (a+k)with
   | []=>.ok (a+k,n+1,if n=C then bi d s (a+1) (a+k-1) key else s)
   | c :: _=>if c.toNat=10 then .ok (a+k,n+1,if n=C then bi d s (a+1) (a+k-1) key else s)else dv dE d W C key fuel (a+k+1) (n+1) (if n=C then bi d s (a+1) (a+k-1) key else s):=by
 rw[dv,h];simp only[];rw[if_neg hb,if_neg he];cases d.drop (a+k)<;>rfl
theorem vT{fuel a n k:Nat}{q:Bool}{s:PS}{f R:List UInt8}(hd:d.drop a=f++R)(hk:f.length=k)(hR:yp R)(h:cX (f++R)=Yr (k,q))(hb:¬(W<=n\/(n=C/\q=false)))(he:¬(n=C/\(dE (a6 d (a+1) (a+k-1))).2≠0)):dv dE d W C key (fuel+1) a n s=.ok (a+k,n+1,if n=C then bi d s (a+1) (a+k-1) key else s):=by
 rw[Kt (by rw[hd];exact h) hb he];have:d.drop (a+k)=R:=by rw[<-List.drop_drop,hd,<-hk,List.drop_left]
 rw[this];rcases hR with rfl|⟨r,rfl⟩<;>rfl
theorem vU{fuel a n k:Nat}{q:Bool}{s:PS}{f R:List UInt8}(hd:d.drop a=f++44 :: R)(hk:f.length=k)(h:cX (f++44 :: R)=Yr (k,q))(hb:¬(W<=n\/(n=C/\q=false)))(he:¬(n=C/\(dE (a6 d (a+1) (a+k-1))).2≠0)):dv dE d W C key (fuel+1) a n s=dv dE d W C key fuel (a+k+1) (n+1) (if n=C then bi d s (a+1) (a+k-1) key else s)/\d.drop (a+k+1)=R:=by
 rw[Kt (by rw[hd];exact h) hb he];have:d.drop (a+k)=44 :: R:=by rw[<-List.drop_drop,hd,<-hk,List.drop_left]
 have h2:d.drop (a+k+1)=R:=by rw[<-List.drop_drop,this];rfl
 rw[this];exact⟨rfl,h2⟩
end
theorem RE{x y n:Nat}{s t:PS}(h1:x=y)(h2:s=t):(.ok (x,n,s):Except (Nat × Int) (Nat × Nat × PS))=.ok (y,n,t):=by rw[h1,h2]
theorem wj{d key:List UInt8}{s:PS}{a b a' b':Nat}(h1:a=a')(h2:b=b'):bi d s a b key=bi d s a' b' key:=by rw[h1,h2]
theorem Ov{d raw R:List UInt8}{a:Nat}(hd:d.drop a=34 :: (raw++34 :: R)):a6 d (a+1) (a+(raw.length+2)-1)=raw:=by
 refine uA (y:=34 :: R) ?_ (by omega);rw[<-List.drop_drop,hd];rfl
theorem MA{dE:List UInt8->Nat × Int}{d key raw R:List UInt8}{au:Nat}(hc:au<3)(a fuel:Nat)(s:PS)(hq:nG raw)(he:(dE raw).2=0)(hR:yp R)(hd:d.drop a=ju au++34 :: (raw++34 :: (iG au++R))) :
  dv dE d (um au) (Cp au) key (fuel+3) a 0 s=.ok (a+((ju au).length+(raw.length+2)+(iG au).length),um au,bi d s (a+(ju au).length+1) (a+(ju au).length+1+raw.length) key):=by
 have hne:∀n a',d.drop a'=34 :: (raw++34 :: (iG au++R))->¬(n=Cp au/\(dE (a6 d (a'+1) (a'+(raw.length+2)-1))).2≠0):=by
  intro n a' h';rw[Ov h',he];simp
 rcases(show au=0\/au=1\/au=2 by omega)with rfl|rfl|rfl
 ·have hd0:d.drop a=(34 :: (raw++[34]))++R:=by rw[hd];simp[ju,iG]
  have h:=vT (dE:=dE) (W:=1) (C:=0) (key:=key) (fuel:=fuel+2) (n:=0) (k:=raw.length+2) (q:=true) (s:=s) hd0 (by simp) hR (by simpa using l3 hq (wg hR)) (by simp) (hne 0 a hd);rw[if_pos rfl]at h
  show dv dE d 1 0 key (fuel+2+1) a 0 s=.ok (a+(0+(raw.length+2)+0),1,bi d s (a+0+1) (a+0+1+raw.length) key)
  rw[h];exact RE (by omega) (wj (by omega) (by omega))
 ·have hd0:d.drop a=[55]++44 :: (34 :: (raw++34 :: R)):=by rw[hd];simp[ju,iG]
  obtain⟨h1,hd1⟩:=vU (dE:=dE) (W:=2) (C:=1) (key:=key) (fuel:=fuel+2) (n:=0) (k:=1) (q:=false) (s:=s) hd0 rfl rfl (by simp) (by simp);have hd2:d.drop (a+1+1)=(34 :: (raw++[34]))++R:=by rw[hd1];simp
  have h:=vT (dE:=dE) (W:=2) (C:=1) (key:=key) (fuel:=fuel+1) (n:=1) (k:=raw.length+2) (q:=true) (s:=s) hd2 (by simp) hR (by simpa using l3 hq (wg hR)) (by simp) (hne 1 _ (by rw[hd1];simp[iG]));rw[if_pos rfl]at h;rw[if_neg (by decide)]at h1
  show dv dE d 2 1 key (fuel+2+1) a 0 s=.ok (a+(2+(raw.length+2)+0),2,bi d s (a+2+1) (a+2+1+raw.length) key)
  rw[h1,h];exact RE (by omega) (wj (by omega) (by omega))
 have hd0:d.drop a=[120]++44 :: (34 :: (raw++34 :: ([44,34,121,34]++R))):=by rw[hd];simp[ju,iG]
 obtain⟨h1,hd1⟩:=vU (dE:=dE) (W:=3) (C:=1) (key:=key) (fuel:=fuel+2) (n:=0) (k:=1) (q:=false) (s:=s) hd0 rfl rfl (by simp) (by simp);have hd2:d.drop (a+1+1)=(34 :: (raw++[34]))++44 :: ([34,121,34]++R):=by rw[hd1];simp
 obtain⟨h2,hd3⟩:=vU (dE:=dE) (W:=3) (C:=1) (key:=key) (fuel:=fuel+1) (n:=1) (k:=raw.length+2) (q:=true) (s:=s) hd2 (by simp) (by simpa using l3 hq (R:=44 :: 34 :: 121 :: 34 :: R) rfl) (by simp) (hne 1 _ (by rw[hd1];simp[iG]));rw[if_pos rfl]at h2;rw[if_neg (by decide)]at h1;have h:=vT (dE:=dE) (W:=3) (C:=1) (key:=key) (fuel:=fuel) (n:=2) (k:=3) (q:=true) (s:=bi d s (a+1+1+1) (a+1+1+(raw.length+2)-1) key) hd3 rfl hR (by simpa using l3 (raw:=[121]) (ng (by decide)) (wg hR)) (by simp) (by simp);rw[if_neg (by decide)]at h
 show dv dE d 3 1 key (fuel+2+1) a 0 s=.ok (a+(2+(raw.length+2)+4),3,bi d s (a+2+1) (a+2+1+raw.length) key)
 rw[h1,h2,h];exact RE (by omega) (wj (by omega) (by omega))
section
variable {dE:List UInt8->Nat × Int} {dig:Nat->List UInt8} {d:List UInt8}
theorem O9{W C:Nat}(fuel a r:Nat)(s:PS)(h:d.length<=a):cE dE dig d W C fuel a r s=.ok s:=by
 cases fuel with
 | zero=>rfl
 | succ f=>rw[cE,if_pos h]
theorem Pb{W C fuel a r e n:Nat}{s s':PS}(h:¬d.length<=a)(hr:dv dE d W C (dig r) (d.length+1) a 0 s=.ok (e,n,s'))(hn:¬n<W):cE dE dig d W C (fuel+1) a r s=cE dE dig d W C fuel (e+1) (r+1) s':=by
 rw[cE,if_neg h,hr];simp only[];rw[if_neg hn]
def E6(dig:Nat->List UInt8)(au i:Nat)(u:Wu):Prop:=u.o=[10]++ju au++[34]/\u.k=dig (i+1)/\u.c=34 :: iG au
theorem RO{au:Nat}(hc:au<3):∀(us:List Wu) (fuel a r:Nat) (s:PS) (p:List UInt8),(∀i u,us[i]?=Yr u->E6 dig au (r+i) u/\nG u.r/\(dE u.r).2=0)->us.length<=fuel->iE d a s p (bW us)->∃s',cE dE dig d (um au) (Cp au) fuel (a+1) (r+1) s=.ok s'/\cI d s'=s.1++bo p us
 | [],fuel,a,r,s,p,_,_,hs=>⟨s,O9 _ _ _ _ (by have:=hs.fin.1;omega),hs.fin.2⟩
 | u :: us,0,a,r,s,p,_,hf,_=>by simp at hf
 | u :: us,fuel+1,a,r,s,p,h,hf,hs=>by
  obtain⟨⟨ho,hk,hcl⟩,hq,he⟩:=h 0 u rfl
  have hsh:∀i v,us[i]?=Yr v->E6 dig au (r+1+i) v/\nG v.r/\(dE v.r).2=0:=λi v hv=>by
   have:=h (i+1) v hv
   rwa [show r+(i+1)=r+1+i by omega]at this
  have hR:yp (bW us):=by
   cases us with
   | nil=>exact .inl rfl
   | cons v us=>
    obtain⟨⟨hv,_⟩,_⟩:=hsh 0 v rfl;exact .inr ⟨ju au++([34]++(v.r++(v.c++bW us))),by rw[dX,hv];simp⟩
  rw[dX]at hs;have hol:u.o.length=1+(ju au).length+1:=by rw[ho];simp;omega
  have hd1:d.drop (a+1)=ju au++34 :: (u.r++34 :: (iG au++bW us)):=by
   rw[<-List.drop_drop,hs.rest,ho,hcl];simp
  have hl:=congrArg List.length hd1;simp at hl;obtain⟨m,hm⟩:∃m,d.length+1=m+3:=⟨d.length-2,by omega⟩;have h1:=MA (dE:=dE) (d:=d) (key:=dig (r+1)) hc (a+1) m s hq he hR hd1;rw[<-hm]at h1;obtain⟨g1,g2,_⟩:=hs.unit (dig (r+1)) (b:=a+1+(ju au).length+1) (e:=a+1+(ju au).length+1+u.r.length) (by omega) rfl;have g3:=g2.more;rw[List.nil_append]at g3;have me:u.c.length=1+(iG au).length:=by rw[hcl];simp;omega
  obtain⟨s',k1,k2⟩:=RO hc us fuel _ (r+1) _ _ hsh (by simpa using hf) g3;refine⟨s',?_,?_⟩
  ·rw[Pb (by omega) h1 (by omega),<-k1];congr 1;omega
  rw[k2,g1,bo,hk,Nat.add_zero];simp
theorem KR{au:Nat}{us:List Wu}(hc:au<3)(hu:∀i u,us[i]?=Yr u->E6 dig au i u/\nG u.r/\(dE u.r).2=0)(hl:d.length<=65536)(hd:d=mg au++bW us):eI dE dig d=(bo (mg au) us,0,0):=by
 have hR:yp (bW us):=by
  cases us with
  | nil=>exact .inl rfl
  | cons v us=>
   obtain⟨⟨hv,_⟩,_⟩:=hu 0 v rfl;exact .inr ⟨ju au++([34]++(v.r++(v.c++bW us))),by rw[dX,hv];simp⟩
 have hlen:=congrArg List.length hd;rw[List.length_append]at hlen;have h4:4<=(mg au).length:=by unfold mg;split;decide;split<;>decide
 obtain⟨m,hm⟩:∃m,d.length+1=m+3:=⟨d.length-2,by omega⟩
 have hh:fh d (d.length+1) 0 0 0 0=.ok ((mg au).length,um au,1,Cp au):=by
  rw[hm];conv=>lhs;rw[hd]
  exact JQ hc hR m
 have hrl:∀ {us:List Wu} {k:Nat},(∀i u,us[i]?=Yr u->E6 dig au (k+i) u)->us.length<=(bW us).length:=fun {us}=>by
  induction us with
  | nil=>intro k _;simp
  | cons x l ih=>
   intro k h;obtain⟨ho,_⟩:=h 0 x rfl
   have:=ih (k:=k+1) λi v hv=>by
    have:=h (i+1) v hv
    rwa [show k+(i+1)=k+1+i by omega]at this
   rw[dX,ho];simp;omega
 have hr:=hrl (us:=us) (k:=0) λi u hi=>by rw[Nat.zero_add];exact(hu i u hi).1
 obtain⟨s',k1,k2⟩:=RO (dE:=dE) (dig:=dig) (d:=d) hc us (d.length+1) (mg au).length 0 ([],0) (mg au) (λi u hi=>by rw[Nat.zero_add];exact hu i u hi) (by omega) ⟨by simp,by simpa using hd⟩;rw[eI,if_neg (by omega),hh];simp only[];rw[if_neg (by decide),if_neg (by decide),k1]
 show(cI d s',0,0)=_
 rw[k2];rfl
end
end Go.Proofs.YthoemdibbldndaaGreatDoor.St
