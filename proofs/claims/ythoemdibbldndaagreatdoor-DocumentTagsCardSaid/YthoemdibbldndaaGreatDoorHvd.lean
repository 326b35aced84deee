/- Plain: units in the maker's forms: what reading gives, where they may stand, what. -/
import Derived.Test.YthoemdibbldndaaGreatDoorHvp
import Derived.Test.YthoemdibbldndaaGreatDoorDocX
set_option linter.all false
namespace Go.Proofs.YthoemdibbldndaaGreatDoor
namespace St
theorem zA{p:It}(h:n3 p):jE bX (bU (aH 2 p)) p:=by
 have h0:=Di p h;rcases h with⟨c,rfl⟩|⟨t,rfl,ht⟩
 ·have e:aH 2 (1,[c],0)=bh 2 c:=by simp[aH]
  rw[e]at h0 |-
  by_cases tM:c.toNat=32
  ·obtain rfl:=gV tM;exact⟨by decide,by decide,λ_=>rfl⟩
  have:bU (bh 2 c)=bh 2 c:=by
   have hn:∀d r,bh 2 c=d :: r->d.toNat≠32:=by
    intro d r hd;unfold bh at hd;simp only[Int.reduceEq,if_false,if_true]at hd
    repeat' split at hd
    all_goals
     simp only[List.cons.injEq]at hd
     first|(rw[<-hd.1];decide)|(rw[<-hd.1];exact tM)
   cases hb:bh 2 c with
   | nil=>rfl
   | cons d r=>rw[bU,if_neg (hn d r hb)]
  rw[this];exact h0
 have e:aH 2 (5,t,0)=123 :: (t++[125]):=by simp[aH]
 rw[e]at h0 |-;rw[bU,if_neg (by decide)];exact h0
theorem Ct{p:It}(h:n3 p)(r:Nat):pX bX ([92,10]++dC r++bU (aH 2 p)) p:=by
 obtain⟨c,q,hc,hb⟩:=CS h;refine⟨by simp,λrest a d f cuts op c0 i b7 c' hs hf=>?_⟩;have e:[92,10]++dC r++bU (aH 2 p)++rest=92 :: 10 :: (dC r++(bU (aH 2 p)++rest)):=by simp
 have hn:dT (dC r++(bU (aH 2 p)++rest))=(dC r).length:=by
  unfold dT;rw[List.takeWhile_append_of_pos (Gx r),hc,List.cons_append,List.takeWhile_cons_of_neg (by simp[hb])];simp
 have hk:bX (92 :: 10 :: (dC r++(bU (aH 2 p)++rest)))=some (0,[],2+(dC r).length):=by rw[jV (by decide) (by decide),hn]
 rw[e,EH B2 a d f cuts op c0 (by simp) hk]
 have e2:(92 :: 10 :: (dC r++(bU (aH 2 p)++rest))).drop (2+(dC r).length)=bU (aH 2 p)++rest:=by
  have:2+(dC r).length=(92 :: 10 :: dC r).length:=by simp;omega
  rw[this,show(92 :: 10 :: (dC r++(bU (aH 2 p)++rest)))=(92 :: 10 :: dC r)++(bU (aH 2 p)++rest)by simp,List.drop_left]
 have e3:a+(2+(dC r).length)+(bU (aH 2 p)).length=a+([92,10]++dC r++bU (aH 2 p)).length:=by simp;omega
 rw[e2,((zA h).I4 B2).2 rest _ d f cuts op c0 i b7 c' hs hf,e3]
def qB(fmt:Int)(p:It):Prop:=r5 p/\(fmt≠1->n3 p)
theorem AI{p:It}{b:List UInt8}(h:r5 p)(hf:jy 1 p b):zD p b:=by
 rcases hf with rfl|⟨_,g1,g⟩|⟨e,_⟩
 ·exact .inl rfl
 ·obtain⟨c,rfl⟩:∃c,p=(1,[c],0):=by
   rcases h with⟨c,rfl⟩|⟨t,rfl,_⟩|⟨t,i,rfl|rfl,_⟩|⟨t,i,rfl,_⟩
   ·exact⟨c,rfl⟩
   all_goals exact absurd g1 (by simp)
  rcases g with⟨g2,rfl⟩|⟨g2,rfl⟩
  ·exact .inr (.inl ⟨by rw[show[c]=[62]from g2],rfl⟩)
  exact .inr (.inr ⟨by rw[show[c]=[125]from g2],rfl⟩)
 exact absurd e (by decide)
theorem qN{fmt:Int}(hk:fmt=1\/fmt=2\/fmt=3){p:It}{b:List UInt8}(h:qB fmt p)(hf:jy fmt p b):pX (F8 fmt) b p:=by
 have hE:=(Dl hk).ok.Rx;rcases hk with rfl|rfl|rfl
 ·exact(Cu h.1 (AI h.1 hf)).I4 hE
 ·have h1:=h.2 (by decide);rcases hf with rfl|⟨e,_⟩|⟨_,⟨g1,g2,rfl⟩|⟨r,_,rfl⟩⟩
  ·exact(Di p h1).I4 hE
  ·exact absurd e (by decide)
  ·obtain rfl:p=(1,[32],0):=by
    rcases h1 with⟨c,rfl⟩|⟨t,rfl,_⟩
    ·rw[show[c]=[32]from g2]
    exact absurd g1 (by simp)
   exact(show jE bX [92,115] (1,[32],0)from⟨by decide,by decide,λ_=>rfl⟩).I4 hE
  exact Ct h1 r
 have h1:=h.2 (by decide);rcases hf with rfl|⟨e,_⟩|⟨e,_⟩
 ·exact(xY p h1).I4 hE
 ·exact absurd e (by decide)
 exact absurd e (by decide)
def Sep(fmt:Int)(r:List UInt8):Prop:=(fmt=1->Jm r)/\(fmt=2->gX r)/\(fmt=3->mL r)
theorem KI{fmt:Int}{ps:List (List UInt8 × It)}(h:∀q∈ps,qB fmt q.2/\jy fmt q.2 q.1):Sep fmt (bt ps):=by
 refine⟨λe=>?_,λe=>?_,λe=>?_⟩
 ·subst e;intro b hb;exact AH hb λq hq=>⟨(h q hq).1.1,AI (h q hq).1.1 (h q hq).2⟩
 ·subst e;exact Dm λq hq=>Mi ((h q hq).1.2 (by decide)) (h q hq).2
 subst e;refine BP λq hq=>?_
 rcases(h q hq).2 with e|⟨e,_⟩|⟨e,_⟩
 ·rw[e];exact Iv ((h q hq).1.2 (by decide))
 ·exact absurd e (by decide)
 exact absurd e (by decide)
theorem pq{fmt:Int}{p:It}(h:qB fmt p):zQ fmt p.1 p.2.1/\(p.1=1->p.2.1.length=1):=by
 by_cases hf:fmt=1
 ·subst hf;rcases h.1 with⟨c,rfl⟩|⟨t,rfl,ht⟩|⟨t,i,rfl|rfl,h1,h2⟩|⟨t,i,rfl,h1,h2⟩
  ·exact⟨.inl rfl,λ_=>rfl⟩
  ·exact⟨.inr (.inl ⟨rfl,ht⟩),λe=>absurd e (by simp)⟩
  ·exact⟨.inr (.inr ⟨rfl,.inl ⟨.inl rfl,h1,h2⟩⟩),λe=>absurd e (by simp)⟩
  ·exact⟨.inr (.inr ⟨rfl,.inl ⟨.inr rfl,h1,h2⟩⟩),λe=>absurd e (by simp)⟩
  exact⟨.inr (.inr ⟨rfl,.inr ⟨rfl,h1,h2⟩⟩),λe=>absurd e (by simp)⟩
 rcases h.2 hf with⟨c,rfl⟩|⟨t,rfl,ht⟩
 ·exact⟨.inl rfl,λ_=>rfl⟩
 exact⟨.inr (.inl ⟨rfl,ht⟩),λe=>absurd e (by simp)⟩
theorem o6{fmt:Int}{p:It}{b:List UInt8}(h:qB fmt p)(hs:p.1≠1->p.2.1.length<=24)(hf:jy fmt p b):b.length<=40/\(aH fmt p).length<=27:=by
 have hi:∀fm:Int,(aH fm p).length<=27:=λfm=>by
  rcases h.1 with⟨c,rfl⟩|⟨t,rfl,ht⟩|⟨t,i,rfl|rfl,h1,h2⟩|⟨t,i,rfl,h1,h2⟩
  ·have e:aH fm (1,[c],0)=bh fm c:=by simp[aH]
   have:=kJ fm c
   rw[e];omega
  all_goals
   have:=hs (by simp)
   simp[aH]at this |-;omega
 refine⟨?_,hi fmt⟩;rcases hf with rfl|⟨_,_,⟨_,rfl⟩|⟨_,rfl⟩⟩|⟨_,⟨_,_,rfl⟩|⟨r,_,rfl⟩⟩
 ·have:=hi fmt;omega
 ·simp
 ·simp
 ·simp
 have h1:=hi 2;have h2:=rz (aH 2 p);have h3:(dC r).length<=2:=by unfold dC;split;simp;split<;>simp
 simp;omega
structure la (fmt:Int) (f:List It) (raw:List UInt8) (ps:List (List UInt8 × It)) (c:Nat):Prop where
 hold:lv fmt f
 ok:dY (aN f) [] 0=some ([],c)
 len:f.length<=512
 pos:ay f<=1024
 sml:∀x∈gE f,x.2.1.length<=24
 flat:raw=bt ps
 ah:eV ps=aN f
 form:∀p∈ps,jy fmt p.2 p.1
section
variable {fmt:Int} {f:List It} {raw:List UInt8} {ps:List (List UInt8 × It)} {c:Nat}
theorem la.mem(h:la fmt f raw ps c){q:List UInt8 × It}(hq:q∈ps):q.2∈aN f:=by rw[<-h.ah];exact List.mem_map.2 ⟨q,hq,rfl⟩
theorem la.all(h:la fmt f raw ps c):∀q∈ps,qB fmt q.2/\jy fmt q.2 q.1:=λq hq=>⟨h.hold.Kr _ (h.mem hq),h.form q hq⟩
theorem la.sep(h:la fmt f raw ps c):Sep fmt raw:=by rw[h.flat];exact KI h.all
theorem la.SQ(h:la fmt f raw ps c):ps.length=ay f:=by rw[<-lm,<-h.ah];simp[eV]
theorem D4{p:It}(hs:∀x∈gE f,x.2.1.length<=24)(hp:p∈aN f)(h1:p.1≠1):p.2.1.length<=24:=hs p (by rw[<-mn];exact List.mem_filter.2 ⟨hp,by simpa using h1⟩)
theorem x9{m:Nat}:∀ {ps:List (List UInt8 × It)},(∀q∈ps,q.1.length<=m)->(bt ps).length<=m*ps.length
 | [],_=>by simp[bt]
 | p :: ps,h=>by
  have:=x9 (m:=m) (ps:=ps) λq hq=>h q (by simp[hq])
  have e:bt (p :: ps)=p.1++bt ps:=by simp[bt]
  rw[e,List.length_append,List.length_cons,Nat.mul_add];have:=h p (by simp)
  omega
theorem la.reads(hk:fmt=1\/fmt=2\/fmt=3)(h:la fmt f raw ps c):kj fmt raw=(f,(List.range (ps.length+1)).map (cz ps),0,0)/\Er (F8 fmt) (zQ fmt) raw (kj fmt raw) ps [] c:=by
 have hfl:=h.flat;subst hfl;have hf:(eV ps).foldl aP []=f:=by rw[h.ah];exact pr h.hold.nm (mm h.hold.nm)
 have hl:ps.length<=1024:=by rw[h.SQ];exact h.pos
 have hd:=n9 (E:=F8 fmt) ps [] 0 0 [] [] [] 0 (λq hq=>qN hk (h.all q hq).1 (h.all q hq).2) (by rw[h.ah];exact h.ok) (by rw[hf];exact h.len) (by simpa using hl);rw[hf,List.append_nil,xU]at hd
 have e:(if ps=[]then 0 else 0+(bt ps).length)=0+(bt ps).length:=by
  split
  ·rename_i h;subst h;simp[bt]
  rfl
 have hr:kj fmt (bt ps)=(f,(List.range (ps.length+1)).map (cz ps),0,0):=by
  rw[sg hk,hd,e];unfold gD;rw[if_pos rfl,List.nil_append,DN ps 0];simp
 refine⟨hr,by rw[List.append_nil],tail_nil _,λq hq=>qN hk (h.all q hq).1 (h.all q hq).2,λq hq=>(pq (h.all q hq).1).1,λq hq=>(pq (h.all q hq).1).2,by rw[h.ah];exact h.ok,by rw[hr,hf],by rw[hr],by rw[hr];exact h.len,hl⟩
end
end St
end Go.Proofs.YthoemdibbldndaaGreatDoor
namespace Go.Proofs.YthoemdibbldndaaGreatDoor
namespace St
def zH(fmt:Int)(p:List UInt8)(us:List Wu):Prop:=
 (fmt=1/\(∃h,h<3/\p=iZ h)/\∀i u,us[i]?=some u->Lp Lib.decDigits i u)\/
 (fmt=2/\(∃h,h<3/\p=jz h)/\us.length<10/\∀i u,us[i]?=some u->C8 us.length i u)\/
 (fmt=3/\∃aw,aw<3/\p=lK aw/\∀i u,us[i]?=some u->C9 Lib.decDigits aw i u)
def oJ(us:List Wu)(i:Nat)(s:List UInt8):List Wu:=us.modify i λu=>⟨u.o,u.k,s,u.c⟩
theorem gQ:∀(us:List Wu) (p:List UInt8) (i:Nat) (s:List UInt8),dI (bI p us) (2*i+1) s=bI p (oJ us i s)
 | [],p,i,s=>by
  unfold dI oJ;rw[List.modify_eq_self (by simp[bI])];simp[bI]
 | u :: us,p,0,s=>by simp[dI,oJ,bI]
 | u :: us,p,i+1,s=>by
  have ih:=gQ us u.c i s;unfold dI oJ at ih |-;rw[show 2*(i+1)+1=2*i+1+1+1 by omega,bI,List.modify_succ_cons,List.modify_succ_cons,List.modify_succ_cons,bI,ih]
theorem yK:∀(us:List Wu) (p:List UInt8) (j:Nat) (x:Pt),(bI p us)[j]?=some x->x.1=true->∃i u,j=2*i+1/\us[i]?=some u/\x=(true,u.k,u.r)
 | [],p,j,x,h,hx=>by
  cases j with
  | zero=>simp[bI]at h;subst h;cases hx
  | succ j=>simp[bI]at h
 | u :: us,p,0,x,h,hx=>by simp[bI]at h;subst h;cases hx
 | u :: us,p,1,x,h,hx=>by
  simp[bI]at h;exact⟨0,u,rfl,rfl,h.symm⟩
 | u :: us,p,j+2,x,h,hx=>by
  rw[bI,List.getElem?_cons_succ,List.getElem?_cons_succ]at h;obtain⟨i,v,rfl,hv,e⟩:=yK us u.c j x h hx;exact⟨i+1,v,by omega,by simpa using hv,e⟩
theorem BM:∀(us:List Wu) (p:List UInt8) (i:Nat) (u:Wu),us[i]?=some u->(bI p us)[2*i+1]?=some (true,u.k,u.r)
 | [],p,i,u,h=>by simp at h
 | v :: us,p,0,u,h=>by simp at h;subst h;rfl
 | v :: us,p,i+1,u,h=>by
  rw[show 2*(i+1)+1=2*i+1+1+1 by omega,bI,List.getElem?_cons_succ,List.getElem?_cons_succ];exact BM us v.c i u (by simpa using h)
theorem xO:∀(us:List Wu) (i:Nat) (s:List UInt8),(bZ (oJ us i s)).length<=(bZ us).length+s.length
 | [],i,s=>by simp[oJ,bZ]
 | u :: us,0,s=>by
  have e:oJ (u :: us) 0 s=⟨u.o,u.k,s,u.c⟩ :: us:=by simp[oJ]
  rw[e,dV,dV];simp only[List.length_append];omega
 | u :: us,i+1,s=>by
  have e:oJ (u :: us) (i+1) s=u :: oJ us i s:=by simp[oJ]
  have ih:=xO us i s;rw[e,dV,dV];simp only[List.length_append];omega
def Qu(fmt:Int)(r:List UInt8):Prop:=∃f qs c,la fmt f r qs c
theorem qZ{fmt:Int}{p:List UInt8}{us:List Wu}(hm:zH fmt p us)(hu:∀u∈us,Qu fmt u.r)(hz:(p++bZ us).length<=65536):pZ fmt (p++bZ us)=(bI p us,0,0):=by
 have hk:fmt=1\/fmt=2\/fmt=3:=by rcases hm with h|h|h<;>simp[h.1]
 have hs:∀(i:Nat) (u:Wu),us[i]?=some u->Sep fmt u.r/\(kj fmt u.r).2.2.2=0:=λi u hi=>by
  obtain⟨f,qs,c,h⟩:=hu u (List.mem_of_getElem? hi);exact⟨h.sep,by rw[(h.reads hk).1]⟩
 rcases hm with⟨rfl,⟨h,hh,rfl⟩,h2⟩|⟨rfl,⟨h,hh,rfl⟩,hl,h2⟩|⟨rfl,aw,hc,rfl,h2⟩
 ·exact IR (dE:=Mk.dE) (dig:=Lib.decDigits) hh (λi u hi=>⟨h2 i u hi,(hs i u hi).1.1 rfl,(hs i u hi).2⟩) hz rfl
 ·exact IS (dE:=dE) hh hl (λi u hi=>⟨h2 i u hi,(hs i u hi).1.2.1 rfl,(hs i u hi).2⟩) hz rfl
 exact IT (dE:=Sh.dE) (dig:=Lib.decDigits) hc (λi u hi=>⟨h2 i u hi,(hs i u hi).1.2.2 rfl,(hs i u hi).2⟩) hz rfl
structure kG (fmt:Int) (p:List UInt8) (us:List Wu) (i:Nat) (f:List It) (qs:List (List UInt8 × It)) (c:Nat):Prop where
 made:zH fmt p us
 all:∀u∈us,Qu fmt u.r
 unit:∃u,us[i]?=some u/\la fmt f u.r qs c
 size:(p++bZ us).length<=65536
section
variable {fmt:Int} {p:List UInt8} {us:List Wu} {i:Nat} {f:List It} {qs:List (List UInt8 × It)} {c:Nat}
theorem kG.kn(h:kG fmt p us i f qs c):fmt=1\/fmt=2\/fmt=3:=by rcases h.made with h|h|h<;>simp[h.1]
theorem kG.sW(h:kG fmt p us i f qs c):pZ fmt (b6 (bI p us))=(bI p us,0,0):=by rw[ll];exact qZ h.made h.all h.size
theorem kG.valid(h:kG fmt p us i f qs c):fA (pZ fmt) (bI p us)=0:=by
 unfold fA;rw[h.sW,if_pos ⟨rfl,rfl⟩]
theorem kG.part(h:kG fmt p us i f qs c):∃u,us[i]?=some u/\la fmt f u.r qs c/\fO (bI p us) ((2*i+1:Nat):Int)=(true,u.k,u.r):=by
 obtain⟨u,hu,hf⟩:=h.unit;refine⟨u,hu,hf,?_⟩;unfold fO;rw[if_pos (by omega),Int.toNat_natCast,BM us p i u hu];rfl
theorem kG.cont(h:kG fmt p us i f qs c):bL (kj fmt) (bI p us) ((2*i+1:Nat):Int)=(f,(List.range (qs.length+1)).map (cz qs),0,0):=by
 obtain⟨u,hu,hf,hp⟩:=h.part;unfold bL;rw[hp,if_pos rfl];exact(hf.reads h.kn).1
end
end St
def j4(fmt:Int)(ps:List St.Pt):Prop:=∃p us,ps=St.bI p us/\St.zH fmt p us/\(St.b6 ps).length<=25000/\∀u∈us,∃f qs c,St.la fmt f u.r qs c/\f.length<=10/\bc f<=115
theorem j4.kn{fmt:Int}{ps:List St.Pt}(h:j4 fmt ps):fmt=1\/fmt=2\/fmt=3:=by
 obtain⟨p,us,_,h,_⟩:=h;rcases h with h|h|h<;>simp[h.1]
theorem j4.sW{fmt:Int}{ps:List St.Pt}(h:j4 fmt ps):pZ fmt (St.b6 ps)=(ps,0,0):=by
 obtain⟨p,us,rfl,hm,hz,hu⟩:=h;rw[St.ll]at hz |-;exact St.qZ hm (λu hx=>by obtain⟨f,qs,c,h,_⟩:=hu u hx;exact⟨f,qs,c,h⟩) (by omega)
theorem j4.from{fmt:Int}{ps:List St.Pt}(h:j4 fmt ps):uX fmt ps:=⟨h.kn,St.b6 ps,0,by obtain⟨_,_,_,_,hz,_⟩:=h;omega,h.sW⟩
theorem j4.unit{fmt:Int}{ps:List St.Pt}{k:Int}(h:j4 fmt ps)(hc:(CD fmt ps k).2.2.2=0):∃p us i f qs c,ps=St.bI p us/\k=((2*i+1:Nat):Int)/\St.kG fmt p us i f qs c/\f.length<=10/\bc f<=115/\(p++St.bZ us).length<=25000/\CD fmt ps k=(f,(List.range (qs.length+1)).map (St.cz qs),0,0):=by
 have hk:=h.kn;have e:CD fmt ps k=St.bL (kj fmt) ps k:=by unfold CD;rw[if_pos hk]
 rw[e]at hc |-;obtain⟨p,us,rfl,hm,hz,hu⟩:=h;rw[St.ll]at hz
 have hp:(St.fO (St.bI p us) k).1=true:=by
  unfold St.bL at hc
  split at hc
  ·rename_i h;exact h
  cases hc
 obtain⟨j,rfl,x,hx,hx1⟩:∃j:Nat,k=(j:Int)/\∃x,(St.bI p us)[j]?=some x/\x.1=true:=by
  unfold St.fO at hp
  split at hp
  ·rename_i h0
   cases hg:(St.bI p us)[k.toNat]? with
   | none=>rw[hg]at hp;cases hp
   | some x=>rw[hg]at hp;exact⟨k.toNat,by omega,x,hg,hp⟩
  cases hp
 obtain⟨i,u,rfl,hi,_⟩:=St.yK us p j x hx hx1;obtain⟨f,qs,c,hf,h1,h2⟩:=hu u (List.mem_of_getElem? hi);have hd:St.kG fmt p us i f qs c:=⟨hm,λv hv=>by obtain⟨f,qs,c,h,_⟩:=hu v hv;exact⟨f,qs,c,h⟩,⟨u,hi,hf⟩,by omega⟩;exact⟨p,us,i,f,qs,c,rfl,rfl,hd,h1,h2,hz,hd.cont⟩
end Go.Proofs.YthoemdibbldndaaGreatDoor
namespace Go.Proofs.YthoemdibbldndaaGreatDoor
namespace St
def dQ(closed:Bool)(i:Int):List It:=(2,[98],i) :: cond closed [(3,[98],i)] []
theorem xp(closed:Bool){i:Int}(h:1<=i/\i<=999):bj 1 (dQ closed i)=((aN (dQ closed i)).flatMap (aH 1),0):=by
 have hc:aI [98]=true:=by decide
 have hn:aB [98]=true:=by decide
 have hm:nameOf [98]=[98]:=by decide
 have hb:bu [98]=false:=by decide
 cases closed
 ·simp[bj,bJ,cI,bf,dQ,ay,a7,bp,aJ,aN,hc,hm,hb,h]
 simp[bj,bJ,cI,bf,dQ,ay,a7,bp,aJ,aN,bw,hc,hn,hm,hb,h]
theorem I3{fmt:Int}(h:fmt=2\/fmt=3)(closed:Bool):bj fmt (dQ closed 999)=([],7):=by
 rcases h with rfl|rfl<;>cases closed<;>kernel_rfl
theorem M7(closed:Bool){i:Int}(h:1<=i/\i<=999):bj 1 (dQ closed 999)=bj 1 (dQ closed i):=by
 rw[xp closed h,xp closed (by decide)];cases closed<;>simp[dQ,aN,aH]
theorem OG{g h:List It}(hg:Nm g)(hh:Nm h)(e:aN g=aN h):g=h:=by
 rw[<-pr hg (mm hg),e,pr hh (mm hh)]
theorem LS{f:List It}(h:Nm f)(closed:Bool)(i:Int):Nm (f++dQ closed i):=by
 have h1:=fy h (2,[98],i);rw[fW (by simp)]at h1;cases closed
 ·exact h1
 have h2:=fy h1 (3,[98],i);rw[fW (by simp)]at h2;simpa[dQ]using h2
theorem Eb{f:List It}(h:Nm f)(closed:Bool)(i:Int):fw f [((ay f:Int),(ay f:Int))] [dQ closed i]=f++dQ closed i:=by
 refine OG (xj _ _ _) (LS h closed i) ?_;rw[B0,kV];simp only[fe,Int.toNat_natCast,List.drop_zero];rw[<-lm,List.take_length,List.drop_length,List.append_nil]
theorem PX{f:List It}{c:Nat}(h:dY (aN f) [] 0=some ([],c))(closed:Bool):dY (aN (f++dQ closed ((c:Int)+1))) [] 0=some (cond closed [] [(2,[98],(c:Int)+1)],c+1):=by
 have hm:nameOf [98]=[98]:=by decide
 rw[kV,je _ _ _ _ h];cases closed<;>simp[dQ,aN,dY,stepT,hm]
theorem Jp{l:List Int}{x:It}(h:x.2.2∈l):dR l x=l:=by unfold dR;simp[h]
theorem KR{f:List It}{c:Nat}(hn:Nm f)(h:dY (aN f) [] 0=some ([],c))(hc:c<=512):mZ (f++dQ true 999)=f++dQ true ((c:Int)+1):=by
 obtain⟨h1,h2⟩:=KA h;have hi:=Io h;have h9:(999:Int) ∉ iT c:=λe=>by have:=mj.1 e;omega
 have e1:jQ (f++dQ true 999)=iT c++[999]:=by
  have:jQ (f++dQ true 999)=dR (dR (jQ f) (2,[98],999)) (3,[98],999):=by unfold jQ;rw[List.foldl_append];rfl
  rw[this,h1];have a1:dR (iT c) (2,[98],999)=iT c++[999]:=by unfold dR;simp[aJ,h9]
  rw[a1];exact Jp (by simp)
 have hx:f.map (fP (iT c++[999]))=f:=by
  conv=>rhs;rw[<-h2,h1]
  refine List.map_congr_left λx hx=>?_
  unfold fP
  split
  ·rename_i ht
   have hp:x∈aN f:=by
    have:x∈gE (aN f):=by
     rw[mn];refine List.mem_filter.2 ⟨hx,?_⟩;rcases(nK _).1 ht with e|e|e<;>simp[e]
    exact(List.mem_filter.1 this).1
   have hm:=hi.ids x hp ht;rw[List.idxOf_append,if_pos (mj.2 hm)]
  rfl
 unfold mZ;rw[e1,List.map_append,hx]
 have e2:(dQ true 999).map (fP (iT c++[999]))=dQ true ((c:Int)+1):=by
  have RJ:(iT c++[999]).idxOf (999:Int)=c:=by
   rw[List.idxOf_append,if_neg h9,qy];simp
  simp[dQ,fP,aJ,RJ]
 rw[e2];exact LS hn true _
section
variable {fmt:Int} {p:List UInt8} {us:List Wu} {i:Nat} {f:List It} {qs:List (List UInt8 × It)} {c:Nat}
theorem kG.head(h:kG fmt p us i f qs c){u:Wu}(hu:fO (bI p us) ((2*i+1:Nat):Int)=(true,u.k,u.r)){rs:List (Int × Int)}{ts:List (List It)}(hl:ts.length=rs.length)(ha:eI (ay f) 0 rs=true):fh (kj fmt) (pZ fmt) (bj fmt) fmt (bI p us) ((2*i+1:Nat):Int) rs ts =
  match iW (bj fmt) u.r ((List.range (qs.length+1)).map (cz qs)) 0 [] rs ts with
  | .error e=>((0,[]),e)
  | .ok (s,at')=>vZ (kj fmt) fmt (bI p us) (2*i+1) (mZ (fw f rs ts)) (s++u.r.drop at'):=by
 unfold fh
 rw[if_neg (by rw[h.valid];decide),h.cont,if_neg (by simp),if_neg (by
  rintro (e|e)
  ·exact e hl
  simp only at e;rw[ha]at e;cases e),hu,Int.toNat_natCast]
 rfl
theorem Db(n:Nat):eI n 0 [((n:Int),(n:Int))]=true:=by
 rw[eI,if_neg (by omega)];rfl
theorem JB{E:List It->List UInt8 × Int}{raw:List UInt8}{cuts:List Nat}{r:Int × Int}{t t':List It}(h:E t=E t'):iW E raw cuts 0 [] [r] [t]=iW E raw cuts 0 [] [r] [t']:=by
 rw[iW,iW,h]
theorem IY(h:kG fmt p us i f qs c)(h10:f.length<=10)(NR:bc f<=115)(hz:(p++bZ us).length<=25000)(closed:Bool) :
  (fh (kj fmt) (pZ fmt) (bj fmt) fmt (bI p us) ((2*i+1:Nat):Int) [((ay f:Int),(ay f:Int))] [dQ closed 999]).2=(if closed=true/\fmt=1 then 0 else 7):=by
 obtain⟨u,hu,hf,hp⟩:=h.part;rw[h.head hp rfl (Db _)];have hk:=h.kn
 by_cases h1:fmt=1
 ·subst h1;obtain⟨hr,hpx⟩:=hf.reads hk;rw[hr]at hpx
  have hcn:c<=10:=by
   have a1:=yG _ _ _ hf.ok;have a2:(jj (aN f)).length<=f.length:=by rw[Cl];exact List.length_filter_le _ _
   omega
  have hll:ay f<=125:=by have:=jb f;omega
  have a8:=hf.hold.nm;have ht2:(dQ closed ((c:Int)+1)).length<=2/\ay (dQ closed ((c:Int)+1))<=2:=by cases closed<;>simp[dQ,ay,a7]
  have hlen:(f++dQ closed ((c:Int)+1)).length<=12/\ay (f++dQ closed ((c:Int)+1))<=127:=by
   have e:ay (f++dQ closed ((c:Int)+1))=ay f+ay (dQ closed ((c:Int)+1)):=by simp[ay]
   rw[e,List.length_append];omega
  have hrl:=Eb a8 closed ((c:Int)+1)
  have hpt:∀q∈aN (dQ closed ((c:Int)+1)),qB 1 q/\q.2.1.length<=24:=by
   have hcc:aI [98]=true:=by decide
   have hn:aB [98]=true:=by decide
   have hb:bu (nameOf [98])=false:=by decide
   have hb2:bu [98]=false:=by decide
   have o1:qB 1 ((2,[98],(c:Int)+1):It)/\([98]:List UInt8).length<=24:=⟨⟨.inr (.inr (.inl ⟨_,_,.inl rfl,hcc,hb⟩)),λe=>absurd rfl e⟩,by decide⟩;have o2:qB 1 ((3,[98],(c:Int)+1):It)/\([98]:List UInt8).length<=24:=⟨⟨.inr (.inr (.inr ⟨_,_,rfl,hn,hb2⟩)),λe=>absurd rfl e⟩,by decide⟩;intro q hq;cases closed
   ·have:q=(2,[98],(c:Int)+1):=by simpa[dQ,aN]using hq
    subst this;exact o1
   have:q=(2,[98],(c:Int)+1)\/q=(3,[98],(c:Int)+1):=by simpa[dQ,aN]using hq
   rcases this with rfl|rfl
   ·exact o1
   exact o2
  obtain⟨s,a,g1,g2,g3,g4,z,d,cuts,g5⟩:=FI (fmt:=1) hpx (rs:=[((ay f:Int),(ay f:Int))]) (ts:=[dQ closed ((c:Int)+1)]) (Db _) rfl (λt ht=>by
   simp at ht;subst ht;exact xp closed (by omega)) (λt ht q hq=>by
   simp at ht;subst ht;exact qN hk (hpt q hq).1 (.inl rfl)) (by rw[hrl];exact PX hf.ok closed) (by rw[hrl];omega) (by rw[hrl];omega)
  rw[JB (M7 closed (i:=(c:Int)+1) (by omega)),g1];simp only;rw[<-sg hk,hrl]at g5;unfold vZ;cases closed
  ·have e:gD z d (f++dQ false ((c:Int)+1)) cuts (cond false [] [(2,[98],(c:Int)+1)])=([],[],z,7):=by
    unfold gD;rw[if_neg (by simp)]
   rw[e]at g5;rw[g5,if_pos (by simp)];rfl
  have e:gD z d (f++dQ true ((c:Int)+1)) cuts (cond true [] [(2,[98],(c:Int)+1)])=(f++dQ true ((c:Int)+1),cuts++[d],0,0):=by
   unfold gD;exact if_pos rfl
  rw[e]at g5
  have hsz:(s++u.r.drop a).length<=40*127:=by
   rw[g2,List.append_nil]
   have hm:=x9 (m:=40) (ps:=fe (l3 1) qs 0 [((ay f:Int),(ay f:Int))] [dQ true ((c:Int)+1)]) λq hq=>by
    rcases g4 q hq with hq|⟨t,ht,hq⟩
    ·exact(o6 (hf.all q hq).1 (D4 hf.sml (hf.mem hq)) (hf.all q hq).2).1
    simp at ht;subst ht;obtain⟨x,hx,rfl⟩:=List.mem_map.1 hq;exact(o6 (fmt:=1) (hpt x hx).1 (λ_=>(hpt x hx).2) (.inl rfl)).1
   have hc:=congrArg List.length g3;rw[lm,hrl]at hc;have:(eV (fe (l3 1) qs 0 [((ay f:Int),(ay f:Int))] [dQ true ((c:Int)+1)])).length=(fe (l3 1) qs 0 [((ay f:Int),(ay f:Int))] [dQ true ((c:Int)+1)]).length:=by simp[eV]
   omega
  rw[g5,if_neg (by simp),if_neg (by rw[Eb a8,KR a8 hf.ok (by omega)];simp),if_neg (by
   rw[gQ,ll,List.length_append];have:=xO us i (s++u.r.drop a)
   rw[List.length_append]at hz
   omega)]
  rfl
 rw[iW,if_pos (by rw[I3 (by omega)];decide),I3 (by omega)];rw[if_neg (by rintro ⟨_,e⟩;exact h1 e)]
end
end St
