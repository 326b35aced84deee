/- Plain: a document as the maker writes it, part for part: what splitting gives, in the. -/
import Derived.Test.YthoemdibbldndaaGreatDoorRsA
import Derived.Test.YthoemdibbldndaaGreatDoorPlr
set_option linter.all false
open Option renaming some->UX
namespace Go.Proofs.YthoemdibbldndaaGreatDoor.St
structure Wu where
 o:List UInt8
 k:List UInt8
 r:List UInt8
 c:List UInt8
def bZ(us:List Wu):List UInt8:=us.flatMap λu=>u.o++(u.r++u.c)
def bI:List UInt8->List Wu->List Pt
 | p,[]=>[(false,[],p)]
 | p,u :: us=>(false,[],p++u.o) :: (true,u.k,u.r) :: bI u.c us
theorem dV(u:Wu)(us:List Wu):bZ (u :: us)=u.o++(u.r++(u.c++bZ us)):=by simp[bZ]
theorem ll:∀(us:List Wu) (p:List UInt8),b6 (bI p us)=p++bZ us
 | [],p=>by simp[bI,bZ,b6]
 | u :: us,p=>by
  have:=ll us u.c
  rw[dV];simp only[b6,bI,List.flatMap_cons]at this |-;rw[this];simp
theorem pE(us:List Wu)(u:Wu):bZ (us++[u])=bZ us++(u.o++(u.r++u.c)):=by simp[bZ]
theorem uQ{P:Nat->Wu->Prop}{us:List Wu}{u:Wu}(h:∀j v,us[j]?=UX v->P j v)(hu:P us.length u):∀j v,(us++[u])[j]?=UX v->P j v:=by
 intro j v hv
 by_cases hj:j<us.length
 ·rw[List.getElem?_append_left hj]at hv;exact h j v hv
 rw[List.getElem?_append_right (by omega)]at hv;obtain⟨k,hk⟩:∃k,j-us.length=k:=⟨_,rfl⟩;rw[hk]at hv;cases k with
 | zero=>
  simp at hv;subst hv;rw[show j=us.length by omega];exact hu
 | succ k=>simp at hv
def il(d:List UInt8)(a:Nat)(s:PS)(p R:List UInt8):Prop:=a=s.2+p.length/\d.drop s.2=p++R
section
variable {d p R x o r:List UInt8} {a:Nat} {s:PS}
theorem il.rest(h:il d a s p R):d.drop a=R:=by
 obtain⟨rfl,h⟩:=h;rw[<-List.drop_drop,h,List.drop_left]
theorem il.more(h:il d a s p (x++R)):il d (a+x.length) s (p++x) R:=by
 obtain⟨rfl,h⟩:=h;exact⟨by simp;omega,by rw[h];simp⟩
theorem tn{d x y:List UInt8}{a b:Nat}(h:d.drop a=x++y)(hb:b=a+x.length):aY d a b=x:=by
 subst hb;exact Ax h
theorem il.unit(h:il d a s p (o++(r++R)))(key:List UInt8){b e:Nat}(hb:b=a+o.length)(he:e=b+r.length) :
  bg d s b e key=(s.1++[(false,[],p++o),(true,key,r)],e)/\il d e (bg d s b e key) [] R/\aY d b e=r:=by
 have h1:=h.more.rest;obtain⟨rfl,h0⟩:=h;have c1:aY d s.2 b=p++o:=tn (y:=r++R) (by rw[h0];simp) (by simp;omega);have c2:aY d b e=r:=tn (y:=R) (by rw[hb];exact h1) he;have e1:bg d s b e key=(s.1++[(false,[],p++o),(true,key,r)],e):=by unfold bg;rw[c1,c2]
 refine⟨e1,?_,c2⟩;rw[e1];refine⟨by simp,?_⟩
 show d.drop e=[]++R
 rw[he,<-List.drop_drop,hb,h1,List.drop_left];rfl
theorem il.fin(h:il d a s p []):d.length<=a/\cD d s=s.1++[(false,[],p)]:=by
 have h1:=h.rest;refine⟨by simpa using h1,?_⟩;unfold cD;rw[h.2,List.append_nil]
end
section
variable {dE:List UInt8->Nat × Int} {dig:Nat->List UInt8} {d:List UInt8}
def Lp(dig:Nat->List UInt8)(i:Nat)(u:Wu):Prop:=∃nm at' tl,tl<3/\u.o=[60]++(jd nm++nF at')++[62]/\u.k=dig (i+1)/\u.c=df (jd nm)++kF tl
def Jm(r:List UInt8):Prop:=∀b,bu b=true->r4 b r
theorem OQ:∀(us:List Wu) (r a:Nat) (s:PS) (p:List UInt8),(∀i u,us[i]?=UX u->Lp dig (r+i) u/\Jm u.r/\(dE u.r).2=0)->il d a s p (bZ us)->∃s',nz dE dig d a r s=.ok s'/\cD d s'=s.1++bI p us
 | [],r,a,s,p,_,hs=>⟨s,MB hs.fin.1,hs.fin.2⟩
 | u :: us,r,a,s,p,h,hs=>by
  obtain⟨⟨nm,at',tl,h3,ho,hk,hc⟩,hq,he⟩:=h 0 u rfl;obtain⟨hb,hcn,hn⟩:=Kl nm at';have hol:u.o.length=(jd nm++nF at').length+2:=by rw[ho];simp;omega
  have hcl:u.c.length=(jd nm).length+3+(kF tl).length:=by rw[hc];simp[df];omega
  rw[dV]at hs;have hd0:d.drop a=[60]++(jd nm++nF at')++[62]++(u.r++(df (jd nm)++(kF tl++bZ us))):=by rw[hs.rest,ho,hc];simp
  obtain⟨h1,hd1,_⟩:=I8 (dE:=dE) (dig:=dig) (r:=r) (s:=s) hb hcn hn (hq _ hb) he hd0;rw[<-hol]at h1 hd1;obtain⟨g1,g2,_⟩:=hs.unit (dig (r+1)) rfl rfl;obtain⟨h4,_⟩:=I0 (dE:=dE) (dig:=dig) (r:=r+1) (s:=bg d s (a+u.o.length) (a+u.o.length+u.r.length) (dig (r+1))) h3 hd1;have g3:=g2.more;rw[List.nil_append]at g3
  obtain⟨s',k1,k2⟩:=OQ us (r+1) _ _ _ (λi v hv=>by
   have:=h (i+1) v hv
   rwa [show r+(i+1)=r+1+i by omega]at this) g3
  refine⟨s',?_,?_⟩
  ·rw[h1,h4,<-k1];congr 1;omega
  rw[k2,g1,bI,hk];simp
theorem IR{h:Nat}{us:List Wu}(hh:h<3)(hu:∀i u,us[i]?=UX u->Lp dig i u/\Jm u.r/\(dE u.r).2=0)(hz:d.length<=65536)(hd:d=iZ h++bZ us):gU dE dig d=(bI (iZ h) us,0,0):=by
 obtain⟨h1,h2⟩:=mR (dE:=dE) (dig:=dig) (r:=0) (s:=([],0)) hh hd;obtain⟨s',k1,k2⟩:=OQ (dE:=dE) (dig:=dig) (d:=d) us 0 (iZ h).length ([],0) (iZ h) (λi u hi=>by rw[Nat.zero_add];exact hu i u hi) ⟨by simp,by simpa using hd⟩;rw[IU (by omega),h1,k1]
 show(cD d s',0,0)=_
 rw[k2];rfl
end
end Go.Proofs.YthoemdibbldndaaGreatDoor.St
namespace Go.Proofs.YthoemdibbldndaaGreatDoor.St
def gX(b:List UInt8):Prop:=∀l,dc (b++l)=b.length+dc l
theorem vp:gX []:=λl=>by simp
theorem mN{a b:List UInt8}(ha:gX a)(hb:gX b):gX (a++b):=by
 intro l;rw[List.append_assoc,ha,hb,List.length_append];omega
theorem mO{c:UInt8}(h:c.toNat≠10)(h2:c.toNat≠92):gX [c]:=by
 intro l
 show dc (c :: l)=1+dc l
 rw[dc.eq_def];simp only[];rw[if_neg h,if_neg h2]
theorem vq(c:UInt8):gX [92,c]:=by
 intro l
 show dc (92 :: c :: l)=2+dc l
 rw[dc.eq_def];simp only[];rw[if_neg (by decide),if_pos (by decide)]
theorem GU:∀ {b:List UInt8},(∀c∈b,c.toNat≠10/\c.toNat≠92)->gX b
 | [],_=>vp
 | c :: b,h=>mN (a:=[c]) (mO (h c (by simp)).1 (h c (by simp)).2) (GU (λd hd=>h d (by simp[hd])))
theorem ME{t:List UInt8}(h:aB t=true):∀c∈t,c.toNat≠10/\c.toNat≠92:=by
 cases t with
 | nil=>cases h
 | cons c r=>
  rw[aB]at h;simp only[Bool.and_eq_true,decide_eq_true_eq,kR]at h;obtain⟨_,h1,h2⟩:=h;intro d hd;rcases List.mem_cons.1 hd with rfl|hd
  ·omega
  have:=List.all_eq_true.1 h2 d hd
  simp only[eU,decide_eq_true_eq]at this;omega
theorem Mh(c:UInt8):gX (bh 2 c):=by
 unfold bh;simp only[Int.reduceEq,if_false,if_true]
 repeat' split
 all_goals first|exact vq _|(refine mO ?_ ?_<;>omega)
theorem AG{p:It}(h:n3 p):gX (aH 2 p):=by
 rcases h with⟨c,rfl⟩|⟨t,rfl,ht⟩
 ·have e:aH 2 (1,[c],0)=bh 2 c:=by simp[aH]
  rw[e];exact Mh c
 have e:aH 2 (5,t,0)=123 :: (t++[125]):=by simp[aH]
 rw[e];exact mN (a:=[123]) (mO (by decide) (by decide)) (mN (GU (ME ht)) (mO (by decide) (by decide)))
theorem GV{p:It}(h:n3 p):gX (bU (aH 2 p)):=by
 have h0:=AG h;cases hb:aH 2 p with
 | nil=>exact vp
 | cons c r=>
  rw[hb]at h0;rw[bU]
  split
  ·rename_i tM
   have hr:gX r:=by
    intro l;have:=h0 l
    rw[List.cons_append]at this;have h1:=mO (c:=c) (by omega) (by omega) (r++l);rw[List.singleton_append]at h1;rw[h1]at this;simp at this;omega
   exact mN (vq 115) hr
  exact h0
theorem JF(r:Nat):gX (dC r):=by
 unfold dC
 repeat' split
 ·exact vp
 ·exact mO (by decide) (by decide)
 exact mN (a:=[9]) (mO (by decide) (by decide)) (mO (by decide) (by decide))
theorem Mi{p:It}{b:List UInt8}(h:n3 p)(hf:jy 2 p b):gX b:=by
 rcases hf with rfl|⟨h1,_⟩|⟨_,⟨_,_,rfl⟩|⟨r,_,rfl⟩⟩
 ·exact AG h
 ·exact absurd h1 (by decide)
 ·exact vq 115
 exact mN (mN (vq 10) (JF r)) (GV h)
theorem Dm:∀ {ps:List (List UInt8 × It)},(∀p∈ps,gX p.1)->gX (bt ps)
 | [],_=>vp
 | p :: ps,h=>mN (h p (by simp)) (Dm (λq hq=>h q (by simp[hq])))
theorem JD{raw:List UInt8}(h:gX raw)(r:List UInt8):dc (raw++10 :: r)=raw.length:=by
 rw[h];have:dc (10 :: r)=0:=by rw[dc.eq_def];simp only[];rw[if_pos (by decide)]
 omega
theorem Ma{i:Nat}(h:i<10):Lib.decDigits i=[UInt8.ofNat (48+i)]:=Lib.decDigits_one h
theorem wM{i:Nat}(h:i<10):(UInt8.ofNat (48+i)).toNat=48+i:=UInt8.toNat_ofNat_of_lt' (by show 48+i<256;omega)
theorem nd{dE:List UInt8->Nat × Int}{d:List UInt8}{fuel a n:Nat}{s:PS}{t R:List UInt8}(hd:d.drop a=t++10 :: R)(hs:dP (t++10 :: R)=true)(ht:∀c∈t,c.toNat≠10)(hn:n=a+t.length+1):cY dE d (fuel+1) a s=cY dE d fuel n s/\d.drop n=R:=by
 have hl:=congrArg List.length hd;simp at hl
 have yp:cg (d.drop a)=t.length:=by
  rw[hd];unfold cg;rw[List.takeWhile_append_of_pos (λc hc=>by simpa using ht c hc),List.takeWhile_cons_of_neg (by decide),List.append_nil]
 refine⟨?_,?_⟩
 ·rw[jU (by omega) (by rw[hd];exact hs),yp,<-hn,Nat.min_eq_left (by omega)]
 rw[hn,<-List.drop_drop,<-List.drop_drop,hd,List.drop_left];rfl
def jz(h:Nat):List UInt8:=if h=0 then[]else if h=1 then[35,32,99,10]else[10,32,10]
def nP(r:Nat):List UInt8:=if r=0 then[]else if r=1 then[35,120,10]else[10]
def iF(i:Nat):List UInt8:=[107]++Lib.decDigits i
theorem IZ{dE:List UInt8->Nat × Int}{d R:List UInt8}{fuel a r:Nat}{s:PS}(hr:r<3)(hd:d.drop a=nP r++R):cY dE d (fuel+1) a s=cY dE d fuel (a+(nP r).length) s\/cY dE d (fuel+1) a s=cY dE d (fuel+1) (a+(nP r).length) s:=by
 rcases(show r=0\/r=1\/r=2 by omega)with rfl|rfl|rfl
 ·exact .inr rfl
 ·exact .inl (nd (t:=[35,120]) hd rfl (by simp) rfl).1
 exact .inl (nd (t:=[]) hd rfl (by simp) rfl).1
theorem JW(a b:List Pt)(k:List UInt8):ep (a++b) k=(ep a k || ep b k):=by unfold ep;rw[List.any_append]
def C8(n i:Nat)(u:Wu):Prop:=∃tl,tl<3/\u.o=iF (n-i)++[61]/\u.k=iF (n-i)/\u.c=10 :: nP tl
theorem xa{i:Nat}(hi:i<10):iF i=[107,UInt8.ofNat (48+i)]:=by unfold iF;rw[Ma hi];rfl
theorem I7{dE:List UInt8->Nat × Int}{d raw R p:List UInt8}{fuel a i:Nat}{s:PS}(hi:i<10)(hk:ep s.1 (iF i)=false)(hq:gX raw)(he:(dE raw).2=0)(hs:il d a s p ((iF i++[61])++(raw++10 :: R))) :
  ∃s' e,e=a+3+raw.length/\s'=(s.1++[(false,[],p++(iF i++[61])),(true,iF i,raw)],e)/\cY dE d (fuel+1) a s=cY dE d fuel (e+1) s'/\il d (e+1) s' [10] R:=by
 have hkk:=xa hi;have hnn:=wM hi;have hd:=hs.rest;have ho:(iF i++[61]).length=3:=by rw[hkk];rfl
 obtain⟨g1,g2,g3⟩:=hs.unit (iF i) (b:=a+3) (e:=a+3+raw.length) (by rw[ho]) rfl;rw[hkk]at hd;simp only[List.cons_append,List.nil_append]at hd;have hl:=congrArg List.length hd;simp at hl;have h0:¬d.length<=a:=by omega
 have h1:dP (d.drop a)=false:=by rw[hd];rfl
 have hkc:ga (UInt8.ofNat (48+i))=true:=by unfold ga;rw[hnn];exact decide_eq_true (by omega)
 have hn:bG (d.drop a)=2:=by
  rw[hd];unfold bG;rw[List.takeWhile_cons_of_pos rfl,List.takeWhile_cons_of_pos hkc,List.takeWhile_cons_of_neg (by decide)];rfl
 have hd2:d.drop (a+2)=61 :: (raw++10 :: R):=by rw[<-List.drop_drop,hd];rfl
 have hd3:d.drop (a+3)=raw++10 :: R:=by rw[<-List.drop_drop,hd];rfl
 have hc:aY d a (a+2)=iF i:=by
  rw[hkk];exact tn (y:=61 :: (raw++10 :: R)) (by rw[hd];rfl) rfl
 have hm:min (a+3+raw.length+1) d.length=a+3+raw.length+1:=Nat.min_eq_left (by omega);have hr:=na (dE:=dE) (fuel:=fuel) (s:=s) h0 h1 (by rw[hn,hd2];simp) (by rw[hn,hc];exact hk) (n:=2) (b:=a+3) (t:=a+3+raw.length) hn rfl (by rw[hd3,JD hq]) (by rw[g3];exact he);rw[hc,hm,g1]at hr;rw[g1]at g2;exact⟨_,_,rfl,rfl,hr,by have:=il.more (x:=[10]) g2;simpa using this⟩
theorem KE{dE:List UInt8->Nat × Int}{d:List UInt8}{n:Nat}(hn:n<10):∀(us:List Wu) (i fuel a:Nat) (s:PS) (p:List UInt8),i+us.length=n->(∀j u,us[j]?=UX u->C8 n (i+j) u/\gX u.r/\(dE u.r).2=0)->(∀j,j<=n-i->ep s.1 (iF j)=false)->2*us.length<=fuel->il d a s p (bZ us)->∃s',cY dE d fuel a s=.ok s'/\cD d s'=s.1++bI p us
 | [],i,fuel,a,s,p,_,_,_,_,hs=>⟨s,kY hs.fin.1,hs.fin.2⟩
 | u :: us,i,fuel,a,s,p,hl,h,hk,hf,hs=>by
  obtain⟨⟨tl,h3,ho,mS,hc⟩,hq,he⟩:=h 0 u rfl;simp only[List.length_cons]at hl hf;rw[Nat.add_zero]at ho mS;obtain⟨m,rfl⟩:∃m,fuel=m+1+1:=⟨fuel-2,by omega⟩;rw[dV,ho,hc]at hs;obtain⟨s1,e,LC,hs1,h1,hst⟩:=I7 (dE:=dE) (fuel:=m+1) (i:=n-i) (by omega) (hk _ (Nat.le_refl _)) hq he hs
  have hk2:∀j,j<=n-(i+1)->ep s1.1 (iF j)=false:=λj hj=>by
   rw[hs1]
   show ep (s.1++_) (iF j)=false
   rw[JW,hk j (by omega)]
   have hne:iF (n-i)≠iF j:=by
    rw[xa (by omega),xa (by omega)];intro e;simp only[List.cons.injEq,and_true,true_and]at e;have:=congrArg UInt8.toNat e
    rw[wM (by omega),wM (by omega)]at this;omega
   simp[ep,hne]
  have jp:=hst.more (x:=nP tl);have fin:∀s' p',cD d s'=s1.1++bI p' us->p'=u.c->cD d s'=s.1++bI p (u :: us):=λs' p' g hp=>by rw[g,hs1,hp,bI,ho,mS];simp
  have hsh:∀j v,us[j]?=UX v->C8 n (i+1+j) v/\gX v.r/\(dE v.r).2=0:=λj v hv=>by
   have:=h (j+1) v hv
   rwa [show i+(j+1)=i+1+j by omega]at this
  rw[h1];rcases IZ (dE:=dE) (fuel:=m) (s:=s1) h3 hst.rest with h2|h2
  ·obtain⟨s',k1,k2⟩:=KE hn us (i+1) m _ s1 _ (by omega) hsh hk2 (by omega) jp;exact⟨s',by rw[h2,k1],fin s' _ k2 (by rw[hc];rfl)⟩
  obtain⟨s',k1,k2⟩:=KE hn us (i+1) (m+1) _ s1 _ (by omega) hsh hk2 (by omega) jp;exact⟨s',by rw[h2,k1],fin s' _ k2 (by rw[hc];rfl)⟩
theorem vf:∀ {us:List Wu} {n i:Nat},(∀j u,us[j]?=UX u->C8 n (i+j) u)->2*us.length<=(bZ us).length
 | [],_,_,_=>by simp
 | u :: us,n,i,h=>by
  obtain⟨tl,_,ho,_,hc⟩:=h 0 u rfl
  have ih:=vf (us:=us) (n:=n) (i:=i+1) λj v hv=>by
   have:=h (j+1) v hv
   rwa [show i+(j+1)=i+1+j by omega]at this
  rw[dV,ho,hc];simp[iF];omega
theorem IS{dE:List UInt8->Nat × Int}{d:List UInt8}{h:Nat}{us:List Wu}(hh:h<3)(hl:us.length<10)(hu:∀i u,us[i]?=UX u->C8 us.length i u/\gX u.r/\(dE u.r).2=0)(hz:d.length<=65536)(hd:d=jz h++bZ us):kB dE d=(bI (jz h) us,0,0):=by
 have hlen:=congrArg List.length hd;rw[List.length_append]at hlen;have h2:=vf (us:=us) (n:=us.length) (i:=0) λj u hj=>by rw[Nat.zero_add];exact(hu j u hj).1
 have hend:∀fuel,2*us.length<=fuel->∃s',cY dE d fuel (jz h).length ([],0)=.ok s'/\cD d s'=bI (jz h) us:=λfuel hf=>by
  obtain⟨s',k1,k2⟩:=KE (dE:=dE) (d:=d) hl us 0 fuel (jz h).length ([],0) (jz h) (by omega) (λj u hj=>by rw[Nat.zero_add];exact hu j u hj) (λj _=>rfl) hf ⟨by simp,by simpa using hd⟩;exact⟨s',k1,by simpa using k2⟩
 have key:∃s',cY dE d (d.length+1) 0 ([],0)=.ok s'/\cD d s'=bI (jz h) us:=by
  rcases(show h=0\/h=1\/h=2 by omega)with rfl|rfl|rfl
  ·exact hend (d.length+1) (by omega)
  ·have e:(jz 1).length=4:=rfl;obtain⟨m,hm⟩:∃m,d.length=m+1:=⟨d.length-1,by omega⟩;obtain⟨h1,hd1⟩:=nd (dE:=dE) (d:=d) (fuel:=m+1) (a:=0) (s:=([],0)) (t:=[35,32,99]) (R:=bZ us) (by rw[List.drop_zero];exact hd) rfl (by simp) rfl;rw[hm,h1];exact hend _ (by omega)
  have e:(jz 2).length=3:=rfl;obtain⟨m,hm⟩:∃m,d.length=m+1+1:=⟨d.length-2,by omega⟩;obtain⟨h1,hd1⟩:=nd (dE:=dE) (d:=d) (fuel:=m+1+1) (a:=0) (s:=([],0)) (t:=[]) (R:=[32]++10 :: bZ us) (by rw[List.drop_zero];exact hd) rfl (by simp) rfl;obtain⟨h3,hd3⟩:=nd (dE:=dE) (d:=d) (fuel:=m+1) (s:=([],0)) (t:=[32]) hd1 rfl (by simp) rfl;rw[hm,h1,h3];exact hend _ (by omega)
 obtain⟨s',k1,k2⟩:=key;rw[px (by omega),k1]
 show(cD d s',0,0)=_
 rw[k2]
end Go.Proofs.YthoemdibbldndaaGreatDoor.St
namespace Go.Proofs.YthoemdibbldndaaGreatDoor.St
def lK(aw:Nat):List UInt8:=if aw=0 then[116,101,120,116]else if aw=1 then[105,100,44,116,101,120,116]else[34,97,44,98,34,44,116,101,120,116,44,99]
def jg(aw:Nat):List UInt8:=if aw=0 then[]else if aw=1 then[55,44]else[120,44]
def io(aw:Nat):List UInt8:=if aw=0 then[]else if aw=1 then[]else[44,34,121,34]
def mL(b:List UInt8):Prop:=∀l,bC (b++l)=(bC l).map (·+b.length)
theorem DV:mL []:=λl=>by simp
theorem qp{a b:List UInt8}(ha:mL a)(hb:mL b):mL (a++b):=by
 intro l;rw[List.append_assoc,ha,hb,Option.map_map];congr 1
 funext x
 simp only[Function.comp,List.length_append];omega
theorem mu{c:UInt8}(h:c.toNat≠34):mL [c]:=by
 intro l
 show bC (c :: l)=_
 rw[bC.eq_def];simp only[];rw[if_neg h];rfl
theorem DU:∀ {b:List UInt8},(∀c∈b,c.toNat≠34)->mL b
 | [],_=>DV
 | c :: b,h=>qp (mu (h c (by simp))) (DU (λd hd=>h d (by simp[hd])))
theorem ML:mL [34,34]:=by
 intro l
 show bC (34 :: 34 :: l)=_
 simp only[bC,List.length_cons,List.length_nil];rw[if_pos (by decide),if_pos (by decide)]
theorem MD{t:List UInt8}(h:aB t=true):∀c∈t,c.toNat≠34:=by
 cases t with
 | nil=>intro c hc;cases hc
 | cons a r=>
  simp only[aB,Bool.and_eq_true,decide_eq_true_eq,List.all_eq_true]at h;intro c hc;rcases List.mem_cons.1 hc with rfl|hc
  ·have:=h.2.1
   intro e;simp only[kR,decide_eq_true_eq]at this;omega
  have:=h.2.2 c hc
  intro e;simp only[eU,decide_eq_true_eq]at this;omega
theorem Iv{p:It}(h:n3 p):mL (aH 3 p):=by
 rcases h with⟨c,rfl⟩|⟨t,rfl,ht⟩
 ·have e:aH 3 (1,[c],0)=bh 3 c:=by simp[aH]
  rw[e]
  by_cases qe:c.toNat=34
  ·have hc:c=34:=by apply UInt8.toNat_inj.1;simpa using qe
   subst hc;have e2:bh 3 34=[34,34]:=by decide
   rw[e2];exact ML
  by_cases cT:c.toNat=123
  ·have e2:bh 3 c=[c,c]:=by unfold bh;simp[cT]
   rw[e2];exact qp (mu qe) (mu qe)
  have e2:bh 3 c=[c]:=by unfold bh;simp[qe,cT]
  rw[e2];exact mu qe
 have e:aH 3 (5,t,0)=123 :: (t++[125]):=by simp[aH]
 rw[e];exact qp (a:=[123]) (mu (by decide)) (qp (DU (MD ht)) (mu (by decide)))
theorem BP:∀ {ps:List (List UInt8 × It)},(∀p∈ps,mL p.1)->mL (bt ps)
 | [],_=>DV
 | p :: ps,h=>qp (h p (by simp)) (BP (λq hq=>h q (by simp[hq])))
def wJ(R:List UInt8):Prop:=R=[]\/∃r,R=10 :: r
theorem CK{raw R:List UInt8}(h:mL raw)(hR:ee R=true):bC (raw++34 :: R)=UX (raw.length+1):=by
 rw[h]
 have:bC (34 :: R)=UX 1:=by
  rw[bC.eq_def];simp only[];rw[if_pos (by decide)];cases R with
  | nil=>rfl
  | cons d r=>
   have:d.toNat≠34:=by
    simp only[ee,decide_eq_true_eq]at hR;omega
   simp only[];rw[if_neg this]
 rw[this];simp[Nat.add_comm]
theorem lB{raw R:List UInt8}(h:mL raw)(hR:ee R=true):cW (34 :: (raw++34 :: R))=UX (raw.length+2,true):=by
 simp only[cW];rw[if_pos (by decide),CK h hR];simp only[]
 have:(raw++34 :: R).drop (raw.length+1)=R:=by
  rw[<-List.drop_drop,List.drop_left];rfl
 rw[this,if_pos hR]
theorem uR{R:List UInt8}(h:wJ R):ee R=true:=by
 rcases h with rfl|⟨r,rfl⟩<;>rfl
def td(aw:Nat):Nat:=if aw=0 then 1 else if aw=1 then 2 else 3
def Aw(aw:Nat):Nat:=if aw=0 then 0 else 1
theorem Hm{aw:Nat}{R:List UInt8}(hc:aw<3)(hR:wJ R)(fuel:Nat):eT (lK aw++R) (fuel+3) 0 0 0 0=.ok ((lK aw).length,td aw,1,Aw aw):=by
 rcases(show aw=0\/aw=1\/aw=2 by omega)with rfl|rfl|rfl<;>rcases hR with rfl|⟨r,rfl⟩<;>rfl
section
variable {dE:List UInt8->Nat × Int} {d:List UInt8} {W C:Nat} {key:List UInt8}
theorem Iw{fuel a n k:Nat}{q:Bool}{s:PS}(h:cW (d.drop a)=UX (k,q))(hb:¬(W<=n\/(n=C/\q=false)))(he:¬(n=C/\(dE (aY d (a+1) (a+k-1))).2≠0)):dm dE d W C key (fuel+1) a n s=match d.drop (a+k)with
   | []=>.ok (a+k,n+1,if n=C then bg d s (a+1) (a+k-1) key else s)
   | c :: _=>if c.toNat=10 then .ok (a+k,n+1,if n=C then bg d s (a+1) (a+k-1) key else s)else dm dE d W C key fuel (a+k+1) (n+1) (if n=C then bg d s (a+1) (a+k-1) key else s):=by
 rw[dm,h];simp only[];rw[if_neg hb,if_neg he];cases d.drop (a+k)<;>rfl
theorem uK{fuel a n k:Nat}{q:Bool}{s:PS}{f R:List UInt8}(hd:d.drop a=f++R)(hk:f.length=k)(hR:wJ R)(h:cW (f++R)=UX (k,q))(hb:¬(W<=n\/(n=C/\q=false)))(he:¬(n=C/\(dE (aY d (a+1) (a+k-1))).2≠0)):dm dE d W C key (fuel+1) a n s=.ok (a+k,n+1,if n=C then bg d s (a+1) (a+k-1) key else s):=by
 rw[Iw (by rw[hd];exact h) hb he];have:d.drop (a+k)=R:=by rw[<-List.drop_drop,hd,<-hk,List.drop_left]
 rw[this];rcases hR with rfl|⟨r,rfl⟩<;>rfl
theorem uL{fuel a n k:Nat}{q:Bool}{s:PS}{f R:List UInt8}(hd:d.drop a=f++44 :: R)(hk:f.length=k)(h:cW (f++44 :: R)=UX (k,q))(hb:¬(W<=n\/(n=C/\q=false)))(he:¬(n=C/\(dE (aY d (a+1) (a+k-1))).2≠0)):dm dE d W C key (fuel+1) a n s=dm dE d W C key fuel (a+k+1) (n+1) (if n=C then bg d s (a+1) (a+k-1) key else s)/\d.drop (a+k+1)=R:=by
 rw[Iw (by rw[hd];exact h) hb he];have:d.drop (a+k)=44 :: R:=by rw[<-List.drop_drop,hd,<-hk,List.drop_left]
 have h2:d.drop (a+k+1)=R:=by rw[<-List.drop_drop,this];rfl
 rw[this];exact⟨rfl,h2⟩
end
theorem OI{x y n:Nat}{s t:PS}(h1:x=y)(h2:s=t):(.ok (x,n,s):Except (Nat × Int) (Nat × Nat × PS))=.ok (y,n,t):=by rw[h1,h2]
theorem uT{d key:List UInt8}{s:PS}{a b a' b':Nat}(h1:a=a')(h2:b=b'):bg d s a b key=bg d s a' b' key:=by rw[h1,h2]
theorem L8{d raw R:List UInt8}{a:Nat}(hd:d.drop a=34 :: (raw++34 :: R)):aY d (a+1) (a+(raw.length+2)-1)=raw:=by
 refine tn (y:=34 :: R) ?_ (by omega);rw[<-List.drop_drop,hd];rfl
theorem Kx{dE:List UInt8->Nat × Int}{d key raw R:List UInt8}{aw:Nat}(hc:aw<3)(a fuel:Nat)(s:PS)(hq:mL raw)(he:(dE raw).2=0)(hR:wJ R)(hd:d.drop a=jg aw++34 :: (raw++34 :: (io aw++R))) :
  dm dE d (td aw) (Aw aw) key (fuel+3) a 0 s=.ok (a+((jg aw).length+(raw.length+2)+(io aw).length),td aw,bg d s (a+(jg aw).length+1) (a+(jg aw).length+1+raw.length) key):=by
 have hne:∀n a',d.drop a'=34 :: (raw++34 :: (io aw++R))->¬(n=Aw aw/\(dE (aY d (a'+1) (a'+(raw.length+2)-1))).2≠0):=by
  intro n a' h';rw[L8 h',he];simp
 rcases(show aw=0\/aw=1\/aw=2 by omega)with rfl|rfl|rfl
 ·have hd0:d.drop a=(34 :: (raw++[34]))++R:=by rw[hd];simp[jg,io]
  have h:=uK (dE:=dE) (W:=1) (C:=0) (key:=key) (fuel:=fuel+2) (n:=0) (k:=raw.length+2) (q:=true) (s:=s) hd0 (by simp) hR (by simpa using lB hq (uR hR)) (by simp) (hne 0 a hd);rw[if_pos rfl]at h
  show dm dE d 1 0 key (fuel+2+1) a 0 s=.ok (a+(0+(raw.length+2)+0),1,bg d s (a+0+1) (a+0+1+raw.length) key)
  rw[h];exact OI (by omega) (uT (by omega) (by omega))
 ·have hd0:d.drop a=[55]++44 :: (34 :: (raw++34 :: R)):=by rw[hd];simp[jg,io]
  obtain⟨h1,hd1⟩:=uL (dE:=dE) (W:=2) (C:=1) (key:=key) (fuel:=fuel+2) (n:=0) (k:=1) (q:=false) (s:=s) hd0 rfl rfl (by simp) (by simp);have hd2:d.drop (a+1+1)=(34 :: (raw++[34]))++R:=by rw[hd1];simp
  have h:=uK (dE:=dE) (W:=2) (C:=1) (key:=key) (fuel:=fuel+1) (n:=1) (k:=raw.length+2) (q:=true) (s:=s) hd2 (by simp) hR (by simpa using lB hq (uR hR)) (by simp) (hne 1 _ (by rw[hd1];simp[io]));rw[if_pos rfl]at h;rw[if_neg (by decide)]at h1
  show dm dE d 2 1 key (fuel+2+1) a 0 s=.ok (a+(2+(raw.length+2)+0),2,bg d s (a+2+1) (a+2+1+raw.length) key)
  rw[h1,h];exact OI (by omega) (uT (by omega) (by omega))
 have hd0:d.drop a=[120]++44 :: (34 :: (raw++34 :: ([44,34,121,34]++R))):=by rw[hd];simp[jg,io]
 obtain⟨h1,hd1⟩:=uL (dE:=dE) (W:=3) (C:=1) (key:=key) (fuel:=fuel+2) (n:=0) (k:=1) (q:=false) (s:=s) hd0 rfl rfl (by simp) (by simp);have hd2:d.drop (a+1+1)=(34 :: (raw++[34]))++44 :: ([34,121,34]++R):=by rw[hd1];simp
 obtain⟨h2,hd3⟩:=uL (dE:=dE) (W:=3) (C:=1) (key:=key) (fuel:=fuel+1) (n:=1) (k:=raw.length+2) (q:=true) (s:=s) hd2 (by simp) (by simpa using lB hq (R:=44 :: 34 :: 121 :: 34 :: R) rfl) (by simp) (hne 1 _ (by rw[hd1];simp[io]));rw[if_pos rfl]at h2;rw[if_neg (by decide)]at h1;have h:=uK (dE:=dE) (W:=3) (C:=1) (key:=key) (fuel:=fuel) (n:=2) (k:=3) (q:=true) (s:=bg d s (a+1+1+1) (a+1+1+(raw.length+2)-1) key) hd3 rfl hR (by simpa using lB (raw:=[121]) (mu (by decide)) (uR hR)) (by simp) (by simp);rw[if_neg (by decide)]at h
 show dm dE d 3 1 key (fuel+2+1) a 0 s=.ok (a+(2+(raw.length+2)+4),3,bg d s (a+2+1) (a+2+1+raw.length) key)
 rw[h1,h2,h];exact OI (by omega) (uT (by omega) (by omega))
section
variable {dE:List UInt8->Nat × Int} {dig:Nat->List UInt8} {d:List UInt8}
theorem MN{W C:Nat}(fuel a r:Nat)(s:PS)(h:d.length<=a):cw dE dig d W C fuel a r s=.ok s:=by
 cases fuel with
 | zero=>rfl
 | succ f=>rw[cw,if_pos h]
theorem MP{W C fuel a r e n:Nat}{s s':PS}(h:¬d.length<=a)(hr:dm dE d W C (dig r) (d.length+1) a 0 s=.ok (e,n,s'))(hn:¬n<W):cw dE dig d W C (fuel+1) a r s=cw dE dig d W C fuel (e+1) (r+1) s':=by
 rw[cw,if_neg h,hr];simp only[];rw[if_neg hn]
def C9(dig:Nat->List UInt8)(aw i:Nat)(u:Wu):Prop:=u.o=[10]++jg aw++[34]/\u.k=dig (i+1)/\u.c=34 :: io aw
theorem OR{aw:Nat}(hc:aw<3):∀(us:List Wu) (fuel a r:Nat) (s:PS) (p:List UInt8),(∀i u,us[i]?=UX u->C9 dig aw (r+i) u/\mL u.r/\(dE u.r).2=0)->us.length<=fuel->il d a s p (bZ us)->∃s',cw dE dig d (td aw) (Aw aw) fuel (a+1) (r+1) s=.ok s'/\cD d s'=s.1++bI p us
 | [],fuel,a,r,s,p,_,_,hs=>⟨s,MN _ _ _ _ (by have:=hs.fin.1;omega),hs.fin.2⟩
 | u :: us,0,a,r,s,p,_,hf,_=>by simp at hf
 | u :: us,fuel+1,a,r,s,p,h,hf,hs=>by
  obtain⟨⟨ho,hk,hcl⟩,hq,he⟩:=h 0 u rfl
  have hsh:∀i v,us[i]?=UX v->C9 dig aw (r+1+i) v/\mL v.r/\(dE v.r).2=0:=λi v hv=>by
   have:=h (i+1) v hv
   rwa [show r+(i+1)=r+1+i by omega]at this
  have hR:wJ (bZ us):=by
   cases us with
   | nil=>exact .inl rfl
   | cons v us=>
    obtain⟨⟨hv,_⟩,_⟩:=hsh 0 v rfl;exact .inr ⟨jg aw++([34]++(v.r++(v.c++bZ us))),by rw[dV,hv];simp⟩
  rw[dV]at hs;have hol:u.o.length=1+(jg aw).length+1:=by rw[ho];simp;omega
  have hd1:d.drop (a+1)=jg aw++34 :: (u.r++34 :: (io aw++bZ us)):=by
   rw[<-List.drop_drop,hs.rest,ho,hcl];simp
  have hl:=congrArg List.length hd1;simp at hl;obtain⟨m,hm⟩:∃m,d.length+1=m+3:=⟨d.length-2,by omega⟩;have h1:=Kx (dE:=dE) (d:=d) (key:=dig (r+1)) hc (a+1) m s hq he hR hd1;rw[<-hm]at h1;obtain⟨g1,g2,_⟩:=hs.unit (dig (r+1)) (b:=a+1+(jg aw).length+1) (e:=a+1+(jg aw).length+1+u.r.length) (by omega) rfl;have g3:=g2.more;rw[List.nil_append]at g3;have lI:u.c.length=1+(io aw).length:=by rw[hcl];simp;omega
  obtain⟨s',k1,k2⟩:=OR hc us fuel _ (r+1) _ _ hsh (by simpa using hf) g3;refine⟨s',?_,?_⟩
  ·rw[MP (by omega) h1 (by omega),<-k1];congr 1;omega
  rw[k2,g1,bI,hk,Nat.add_zero];simp
theorem IT{aw:Nat}{us:List Wu}(hc:aw<3)(hu:∀i u,us[i]?=UX u->C9 dig aw i u/\mL u.r/\(dE u.r).2=0)(hl:d.length<=65536)(hd:d=lK aw++bZ us):eB dE dig d=(bI (lK aw) us,0,0):=by
 have hR:wJ (bZ us):=by
  cases us with
  | nil=>exact .inl rfl
  | cons v us=>
   obtain⟨⟨hv,_⟩,_⟩:=hu 0 v rfl;exact .inr ⟨jg aw++([34]++(v.r++(v.c++bZ us))),by rw[dV,hv];simp⟩
 have hlen:=congrArg List.length hd;rw[List.length_append]at hlen;have h4:4<=(lK aw).length:=by unfold lK;split;decide;split<;>decide
 obtain⟨m,hm⟩:∃m,d.length+1=m+3:=⟨d.length-2,by omega⟩
 have hh:eT d (d.length+1) 0 0 0 0=.ok ((lK aw).length,td aw,1,Aw aw):=by
  rw[hm];conv=>lhs;rw[hd]
  exact Hm hc hR m
 have hrl:∀ {us:List Wu} {k:Nat},(∀i u,us[i]?=UX u->C9 dig aw (k+i) u)->us.length<=(bZ us).length:=fun {us}=>by
  induction us with
  | nil=>intro k _;simp
  | cons x l ih=>
   intro k h;obtain⟨ho,_⟩:=h 0 x rfl
   have:=ih (k:=k+1) λi v hv=>by
    have:=h (i+1) v hv
    rwa [show k+(i+1)=k+1+i by omega]at this
   rw[dV,ho];simp;omega
 have hr:=hrl (us:=us) (k:=0) λi u hi=>by rw[Nat.zero_add];exact(hu i u hi).1
 obtain⟨s',k1,k2⟩:=OR (dE:=dE) (dig:=dig) (d:=d) hc us (d.length+1) (lK aw).length 0 ([],0) (lK aw) (λi u hi=>by rw[Nat.zero_add];exact hu i u hi) (by omega) ⟨by simp,by simpa using hd⟩;rw[eB,if_neg (by omega),hh];simp only[];rw[if_neg (by decide),if_neg (by decide),k1]
 show(cD d s',0,0)=_
 rw[k2];rfl
end
end Go.Proofs.YthoemdibbldndaaGreatDoor.St
