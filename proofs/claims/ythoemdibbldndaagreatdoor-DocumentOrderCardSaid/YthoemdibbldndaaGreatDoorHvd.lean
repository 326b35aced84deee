/- Plain: units in the maker's forms: what reading gives, where they may stand, what. -/
import Derived.Test.YthoemdibbldndaaGreatDoorHvp
import Derived.Test.YthoemdibbldndaaGreatDoorDxE
set_option linter.all false
namespace Go.Proofs.YthoemdibbldndaaGreatDoor
namespace St
theorem Cc{p:It}(h:oO p):j5 ch (ck (aL 2 p)) p:=by
 have h0:=zu p h;rcases h with⟨c,rfl⟩|⟨t,rfl,ht⟩
 ·have e:aL 2 (1,[c],0)=bl 2 c:=by simp[aL]
  rw[e]at h0 |-
  by_cases vr:c.toNat=32
  ·obtain rfl:=iy vr;exact⟨by decide,by decide,λ_=>rfl⟩
  have:ck (bl 2 c)=bl 2 c:=by
   have hn:∀d r,bl 2 c=d :: r->d.toNat≠32:=by
    intro d r hd;unfold bl at hd;simp only[Int.reduceEq,if_false,if_true]at hd
    repeat' split at hd
    all_goals
     simp only[List.cons.injEq]at hd
     first|(rw[<-hd.1];decide)|(rw[<-hd.1];exact vr)
   cases hb:bl 2 c with
   | nil=>rfl
   | cons d r=>rw[ck,if_neg (hn d r hb)]
  rw[this];exact h0
 have e:aL 2 (5,t,0)=123 :: (t++[125]):=by simp[aL]
 rw[e]at h0 |-;rw[ck,if_neg (by decide)];exact h0
theorem Fa{p:It}(h:oO p)(r:Nat):oN ch ([92,10]++dJ r++ck (aL 2 p)) p:=by
 obtain⟨c,q,hc,hb⟩:=Fz h;refine⟨by simp,λrest a d f cuts op c0 i cJ c' hs hf=>?_⟩;have e:[92,10]++dJ r++ck (aL 2 p)++rest=92 :: 10 :: (dJ r++(ck (aL 2 p)++rest)):=by simp
 have hn:dV (dJ r++(ck (aL 2 p)++rest))=(dJ r).length:=by
  unfold dV;rw[List.takeWhile_append_of_pos (JP r),hc,List.cons_append,List.takeWhile_cons_of_neg (by simp[hb])];simp
 have hk:ch (92 :: 10 :: (dJ r++(ck (aL 2 p)++rest)))=some (0,[],2+(dJ r).length):=by rw[kw (by decide) (by decide),hn]
 rw[e,Hs EF a d f cuts op c0 (by simp) hk]
 have e2:(92 :: 10 :: (dJ r++(ck (aL 2 p)++rest))).drop (2+(dJ r).length)=ck (aL 2 p)++rest:=by
  have:2+(dJ r).length=(92 :: 10 :: dJ r).length:=by simp;omega
  rw[this,show(92 :: 10 :: (dJ r++(ck (aL 2 p)++rest)))=(92 :: 10 :: dJ r)++(ck (aL 2 p)++rest)by simp,List.drop_left]
 have e3:a+(2+(dJ r).length)+(ck (aL 2 p)).length=a+([92,10]++dJ r++ck (aL 2 p)).length:=by simp;omega
 rw[e2,((Cc h).BZ EF).2 rest _ d f cuts op c0 i cJ c' hs hf,e3]
def yV(fmt:Int)(p:It):Prop:=tI p/\(fmt≠1->oO p)
theorem Dk{p:It}{b:List UInt8}(h:tI p)(hf:jY 1 p b):Cf p b:=by
 rcases hf with rfl|⟨_,g1,g⟩|⟨e,_⟩
 ·exact .inl rfl
 ·obtain⟨c,rfl⟩:∃c,p=(1,[c],0):=by
   rcases h with⟨c,rfl⟩|⟨t,rfl,_⟩|⟨t,i,rfl|rfl,_⟩|⟨t,i,rfl,_⟩
   ·exact⟨c,rfl⟩
   all_goals exact absurd g1 (by simp)
  rcases g with⟨g2,rfl⟩|⟨g2,rfl⟩
  ·exact .inr (.inl ⟨by rw[show[c]=[62]from g2],rfl⟩)
  exact .inr (.inr ⟨by rw[show[c]=[125]from g2],rfl⟩)
 exact absurd e (by decide)
theorem xN{fmt:Int}(hk:fmt=1\/fmt=2\/fmt=3){p:It}{b:List UInt8}(h:yV fmt p)(hf:jY fmt p b):oN (FG fmt) b p:=by
 have hE:=(zv hk).ok.QY;rcases hk with rfl|rfl|rfl
 ·exact(Fb h.1 (Dk h.1 hf)).BZ hE
 ·have h1:=h.2 (by decide);rcases hf with rfl|⟨e,_⟩|⟨_,⟨g1,g2,rfl⟩|⟨r,_,rfl⟩⟩
  ·exact(zu p h1).BZ hE
  ·exact absurd e (by decide)
  ·obtain rfl:p=(1,[32],0):=by
    rcases h1 with⟨c,rfl⟩|⟨t,rfl,_⟩
    ·rw[show[c]=[32]from g2]
    exact absurd g1 (by simp)
   exact(show j5 ch [92,115] (1,[32],0)from⟨by decide,by decide,λ_=>rfl⟩).BZ hE
  exact Fa h1 r
 have h1:=h.2 (by decide);rcases hf with rfl|⟨e,_⟩|⟨e,_⟩
 ·exact(tV p h1).BZ hE
 ·exact absurd e (by decide)
 exact absurd e (by decide)
def Sep(fmt:Int)(r:List UInt8):Prop:=(fmt=1->Ma r)/\(fmt=2->iA r)/\(fmt=3->nF r)
theorem NC{fmt:Int}{ps:List (List UInt8 × It)}(h:∀q∈ps,yV fmt q.2/\jY fmt q.2 q.1):Sep fmt (a6 ps):=by
 refine⟨λe=>?_,λe=>?_,λe=>?_⟩
 ·subst e;intro b hb;exact Dj hb λq hq=>⟨(h q hq).1.1,Dk (h q hq).1.1 (h q hq).2⟩
 ·subst e;exact F6 λq hq=>Pd ((h q hq).1.2 (by decide)) (h q hq).2
 subst e;refine Ev λq hq=>?_
 rcases(h q hq).2 with e|⟨e,_⟩|⟨e,_⟩
 ·rw[e];exact Le ((h q hq).1.2 (by decide))
 ·exact absurd e (by decide)
 exact absurd e (by decide)
theorem qp{fmt:Int}{p:It}(h:yV fmt p):Cv fmt p.1 p.2.1/\(p.1=1->p.2.1.length=1):=by
 by_cases hf:fmt=1
 ·subst hf;rcases h.1 with⟨c,rfl⟩|⟨t,rfl,ht⟩|⟨t,i,rfl|rfl,h1,h2⟩|⟨t,i,rfl,h1,h2⟩
  ·exact⟨.inl rfl,λ_=>rfl⟩
  ·exact⟨.inr (.inl ⟨rfl,ht⟩),λe=>absurd e (by simp)⟩
  ·exact⟨.inr (.inr ⟨rfl,.inl ⟨.inl rfl,h1,h2⟩⟩),λe=>absurd e (by simp)⟩
  ·exact⟨.inr (.inr ⟨rfl,.inl ⟨.inr rfl,h1,h2⟩⟩),λe=>absurd e (by simp)⟩
  exact⟨.inr (.inr ⟨rfl,.inr ⟨rfl,h1,h2⟩⟩),λe=>absurd e (by simp)⟩
 rcases h.2 hf with⟨c,rfl⟩|⟨t,rfl,ht⟩
 ·exact⟨.inl rfl,λ_=>rfl⟩
 exact⟨.inr (.inl ⟨rfl,ht⟩),λe=>absurd e (by simp)⟩
theorem tX{fmt:Int}{p:It}{b:List UInt8}(h:yV fmt p)(hs:p.1≠1->p.2.1.length<=24)(hf:jY fmt p b):b.length<=40/\(aL fmt p).length<=27:=by
 have hi:∀fm:Int,(aL fm p).length<=27:=λfm=>by
  rcases h.1 with⟨c,rfl⟩|⟨t,rfl,ht⟩|⟨t,i,rfl|rfl,h1,h2⟩|⟨t,i,rfl,h1,h2⟩
  ·have e:aL fm (1,[c],0)=bl fm c:=by simp[aL]
   have:=lu fm c
   rw[e];omega
  all_goals
   have:=hs (by simp)
   simp[aL]at this |-;omega
 refine⟨?_,hi fmt⟩;rcases hf with rfl|⟨_,_,⟨_,rfl⟩|⟨_,rfl⟩⟩|⟨_,⟨_,_,rfl⟩|⟨r,_,rfl⟩⟩
 ·have:=hi fmt;omega
 ·simp
 ·simp
 ·simp
 have h1:=hi 2;have h2:=yF (aL 2 p);have h3:(dJ r).length<=2:=by unfold dJ;split;simp;split<;>simp
 simp;omega
structure jC (fmt:Int) (f:List It) (raw:List UInt8) (ps:List (List UInt8 × It)) (c:Nat):Prop where
 hold:jq fmt f
 ok:fy (aE f) [] 0=some ([],c)
 len:f.length<=512
 pos:aA f<=1024
 sml:∀x∈b6 f,x.2.1.length<=24
 flat:raw=a6 ps
 ah:fJ ps=aE f
 form:∀p∈ps,jY fmt p.2 p.1
section
variable {fmt:Int} {f:List It} {raw:List UInt8} {ps:List (List UInt8 × It)} {c:Nat}
theorem jC.mem(h:jC fmt f raw ps c){q:List UInt8 × It}(hq:q∈ps):q.2∈aE f:=by rw[<-h.ah];exact List.mem_map.2 ⟨q,hq,rfl⟩
theorem jC.all(h:jC fmt f raw ps c):∀q∈ps,yV fmt q.2/\jY fmt q.2 q.1:=λq hq=>⟨h.hold.IS _ (h.mem hq),h.form q hq⟩
theorem jC.sep(h:jC fmt f raw ps c):Sep fmt raw:=by rw[h.flat];exact NC h.all
theorem jC.QO(h:jC fmt f raw ps c):ps.length=aA f:=by rw[<-ep,<-h.ah];simp[fJ]
theorem GO{p:It}(hs:∀x∈b6 f,x.2.1.length<=24)(hp:p∈aE f)(h1:p.1≠1):p.2.1.length<=24:=hs p (by rw[<-dX];exact List.mem_filter.2 ⟨hp,by simpa using h1⟩)
theorem AW{m:Nat}:∀ {ps:List (List UInt8 × It)},(∀q∈ps,q.1.length<=m)->(a6 ps).length<=m*ps.length
 | [],_=>by simp[a6]
 | p :: ps,h=>by
  have:=AW (m:=m) (ps:=ps) λq hq=>h q (by simp[hq])
  have e:a6 (p :: ps)=p.1++a6 ps:=by simp[a6]
  rw[e,List.length_append,List.length_cons,Nat.mul_add];have:=h p (by simp)
  omega
theorem jC.size(h:jC fmt f raw ps c):raw.length<=40*aA f:=by
 rw[h.flat,<-h.QO];exact AW λq hq=>(tX (h.all q hq).1 (GO h.sml (h.mem hq)) (h.all q hq).2).1
theorem jC.reads(hk:fmt=1\/fmt=2\/fmt=3)(h:jC fmt f raw ps c):jN fmt raw=(f,(List.range (ps.length+1)).map (cz ps),0,0)/\Hf (FG fmt) (Cv fmt) raw (jN fmt raw) ps [] c:=by
 have hfl:=h.flat;subst hfl;have hf:(fJ ps).foldl aK []=f:=by rw[h.ah];exact lV h.hold.nm (kL h.hold.nm)
 have hl:ps.length<=1024:=by rw[h.QO];exact h.pos
 have hd:=oV (E:=FG fmt) ps [] 0 0 [] [] [] 0 (λq hq=>xN hk (h.all q hq).1 (h.all q hq).2) (by rw[h.ah];exact h.ok) (by rw[hf];exact h.len) (by simpa using hl);rw[hf,List.append_nil,AL]at hd
 have e:(if ps=[]then 0 else 0+(a6 ps).length)=0+(a6 ps).length:=by
  split
  ·rename_i h;subst h;simp[a6]
  rfl
 have hr:jN fmt (a6 ps)=(f,(List.range (ps.length+1)).map (cz ps),0,0):=by
  rw[xH hk,hd,e];unfold jK;rw[if_pos rfl,List.nil_append,GA ps 0];simp
 refine⟨hr,by rw[List.append_nil],tail_nil _,λq hq=>xN hk (h.all q hq).1 (h.all q hq).2,λq hq=>(qp (h.all q hq).1).1,λq hq=>(qp (h.all q hq).1).2,by rw[h.ah];exact h.ok,by rw[hr,hf],by rw[hr],by rw[hr];exact h.len,hl⟩
theorem Di{f:List It}:∀ {rs:List (Int × Int)} {ts:List (List It)},Fits f rs ts->∀t∈ts,∃a b,b6 t=b6 (aR a b 0 f)
 | r :: rs,t :: ts,h,u,hu=>by
  rcases List.mem_cons.1 hu with rfl|hu
  ·exact⟨_,_,h.1⟩
  exact Di h.2 u hu
 | [],_ :: _,h,_,_=>h.elim
theorem Gu:∀(f:List It) (p:Bool),lN p f->f.length+(if p=true then 1 else 0)<=2*(b6 f).length+1
 | [],p,_=>by cases p<;>simp
 | x :: f,p,h=>by
  have ih:=Gu f _ h.2
  by_cases h1:x.1=1
  ·have hp:=(h.1 h1).2.2;subst hp;have e:b6 (x :: f)=b6 f:=by unfold b6;rw[List.filter_cons_of_neg (by simp[h1])]
   rw[decide_eq_true h1]at ih;rw[e,List.length_cons];simp at ih |-;omega
  have e:b6 (x :: f)=x :: b6 f:=by unfold b6;rw[List.filter_cons_of_pos (by simp[h1])]
  rw[decide_eq_false h1]at ih;rw[e,List.length_cons,List.length_cons];cases p<;>simp at ih |-<;>omega
theorem Gq{α:Type}(F:List It->List α)(l:List α):∀(rs:List (Int × Int)) (ts:List (List It)) (a:Nat),bV l.length a rs=true->a<=l.length->(bL F l a rs ts).length<=l.length-a+(ts.map λt=>(F t).length).sum
 | [],ts,a,_,_=>by simp[bL]
 | r :: rs,[],a,_,_=>by simp[bL]
 | r :: rs,t :: ts,a,h,ha=>by
  rw[bV]at h
  split at h
  ·cases h
  rename_i hn
  obtain⟨p,q⟩:=r;simp only at hn h;obtain⟨p,rfl⟩:∃p':Nat,p=p':=⟨p.toNat,by omega⟩;obtain⟨q,rfl⟩:∃q':Nat,q=q':=⟨q.toNat,by omega⟩;have ih:=Gq F l rs ts q h (by omega);rw[bL];simp only[Int.toNat_natCast,List.length_append,List.length_drop,List.length_take,List.map_cons,List.sum_cons];omega
theorem ED{f:List It}{rs:List (Int × Int)}{ts:List (List It)}{m:Nat}(ig:bV (aA f) 0 rs=true)(hm:∀t∈ts,aA t<=m):aA (cK f rs ts)<=aA f+m*ts.length:=by
 rw[<-ep,ku];have h:=Gq aE (aE f) rs ts 0 (by rw[ep];exact ig) (Nat.zero_le _)
 have hs:(ts.map λt=>(aE t).length).sum<=m*ts.length:=by
  clear h ig
  induction ts with
  | nil=>simp
  | cons t ts ih=>
   have:=ih λu hu=>hm u (by simp[hu])
   have h1:=hm t (by simp);rw[<-ep]at h1;rw[List.map_cons,List.sum_cons,List.length_cons,Nat.mul_add];omega
 rw[ep]at h;omega
theorem jC.uE(hk:fmt=1\/fmt=2\/fmt=3)(h:jC fmt f raw ps c){rs:List (Int × Int)}{ts:List (List It)}(ig:bV (aA f) 0 rs=true)(hfit:Fits f rs ts)(ht:∀t∈ts,Nm t/\t.length<=512/\aA t<=1024)(Ib:(b6 f).length<=200)(xR:aA (cK f rs ts)<=1024) :
  ∃s a,l9 (bn fmt) raw ((List.range (ps.length+1)).map (cz ps)) 0 [] rs ts=.ok (s,a)/\s++raw.drop a=a6 (bL (fM fmt) ps 0 rs ts)/\jC fmt (cK f rs ts) (a6 (bL (fM fmt) ps 0 rs ts)) (bL (fM fmt) ps 0 rs ts) c:=by
 obtain⟨hr,hp⟩:=h.reads hk
 have hh:∀t∈ts,jq fmt t:=λt hm=>by
  obtain⟨a,b,e⟩:=Di hfit t hm;exact MS h.hold (ht t hm).1 e
 have hno:=uF hfit ig
 have hlen:(cK f rs ts).length<=512:=by
  have:=Gu _ _ (uw (kP f rs ts))
  rw[hno]at this;simp at this;omega
 have hok:fy (aE (cK f rs ts)) [] 0=some ([],c):=PT hfit ig (λx hx hn=>wI _ _ _ h.ok x (List.mem_filter.1 (by rw[<-dX]at hx;exact hx)).1 hn) h.ok;rw[hr]at hp;obtain⟨s,a,g1,g2,g3,g4,_⟩:=I2 hp ig hfit.len (λt hm=>(hh t hm).enc (ht t hm).2.1 (ht t hm).2.2) (λt hm=>(hh t hm).piece hk) hok hlen xR;refine⟨s,a,g1,by rw[g2,List.append_nil],⟨kP _ _ _,by rw[hno];exact h.hold.items,?_⟩,hok,hlen,xR,by rw[hno];exact h.sml,rfl,g3,λp hp=>?_⟩
 ·rw[kq,<-jo,hno,jo,<-kq];exact h.hold.bH
 rcases g4 p hp with hp|⟨t,_,hp⟩
 ·exact h.form p hp
 obtain⟨q,_,rfl⟩:=List.mem_map.1 hp;exact .inl rfl
end
end St
end Go.Proofs.YthoemdibbldndaaGreatDoor
namespace Go.Proofs.YthoemdibbldndaaGreatDoor
namespace St
def zuu(fmt:Int)(p:List UInt8)(us:List Wu):Prop:=
 (fmt=1/\(∃h,h<3/\p=jv h)/\∀i u,us[i]?=some u->Om Lib.decDigits i u)\/
 (fmt=2/\(∃h,h<3/\p=jZ h)/\us.length<10/\∀i u,us[i]?=some u->FV us.length i u)\/
 (fmt=3/\∃au,au<3/\p=mn au/\∀i u,us[i]?=some u->FW Lib.decDigits au i u)
def eK(us:List Wu)(i:Nat)(s:List UInt8):List Wu:=us.modify i λu=>⟨u.o,u.k,s,u.c⟩
theorem sN{us:List Wu}{i j:Nat}{s:List UInt8}{v:Wu}(h:(eK us i s)[j]?=some v):∃u,us[j]?=some u/\v.o=u.o/\v.k=u.k/\v.c=u.c/\(v=u\/(i=j/\v.r=s)):=by
 unfold eK at h;rw[List.getElem?_modify]at h;cases hu:us[j]? with
 | none=>rw[hu]at h;cases h
 | some u=>
  rw[hu]at h;simp only[Option.map_eq_map,Option.map_some,Option.some.injEq]at h
  by_cases hij:i=j
  ·rw[if_pos hij]at h;subst h;exact⟨u,rfl,rfl,rfl,rfl,.inr ⟨hij,rfl⟩⟩
  rw[if_neg hij]at h;subst h;exact⟨_,rfl,rfl,rfl,rfl,.inl rfl⟩
theorem EQ(us:List Wu)(i:Nat)(s:List UInt8):(eK us i s).length=us.length:=by simp[eK]
theorem M5{fmt:Int}{p:List UInt8}{us:List Wu}(h:zuu fmt p us)(i:Nat)(s:List UInt8):zuu fmt p (eK us i s):=by
 rcases h with⟨h0,h1,h2⟩|⟨h0,h1,h2,h3⟩|⟨h0,au,h1,h2,h3⟩
 ·refine .inl ⟨h0,h1,λj v hv=>?_⟩;obtain⟨u,hu,e1,e2,e3,_⟩:=sN hv;obtain⟨a,b,t,k1,k2,k3,k4⟩:=h2 j u hu;exact⟨a,b,t,k1,by rw[e1,k2],by rw[e2,k3],by rw[e3,k4]⟩
 ·refine .inr (.inl ⟨h0,h1,by rw[EQ];exact h2,λj v hv=>?_⟩);obtain⟨u,hu,e1,e2,e3,_⟩:=sN hv;obtain⟨t,k1,k2,k3,k4⟩:=h3 j u hu;rw[EQ];exact⟨t,k1,by rw[e1,k2],by rw[e2,k3],by rw[e3,k4]⟩
 refine .inr (.inr ⟨h0,au,h1,h2,λj v hv=>?_⟩);obtain⟨u,hu,e1,e2,e3,_⟩:=sN hv;obtain⟨k2,k3,k4⟩:=h3 j u hu;exact⟨by rw[e1,k2],by rw[e2,k3],by rw[e3,k4]⟩
theorem fG:∀(us:List Wu) (p:List UInt8) (i:Nat) (s:List UInt8),dH (bc p us) (2*i+1) s=bc p (eK us i s)
 | [],p,i,s=>by
  unfold dH eK;rw[List.modify_eq_self (by simp[bc])];simp[bc]
 | u :: us,p,0,s=>by simp[dH,eK,bc]
 | u :: us,p,i+1,s=>by
  have ih:=fG us u.c i s;unfold dH eK at ih |-;rw[show 2*(i+1)+1=2*i+1+1+1 by omega,bc,List.modify_succ_cons,List.modify_succ_cons,List.modify_succ_cons,bc,ih]
theorem BD:∀(us:List Wu) (p:List UInt8) (j:Nat) (x:Pt),(bc p us)[j]?=some x->x.1=true->∃i u,j=2*i+1/\us[i]?=some u/\x=(true,u.k,u.r)
 | [],p,j,x,h,hx=>by
  cases j with
  | zero=>simp[bc]at h;subst h;cases hx
  | succ j=>simp[bc]at h
 | u :: us,p,0,x,h,hx=>by simp[bc]at h;subst h;cases hx
 | u :: us,p,1,x,h,hx=>by
  simp[bc]at h;exact⟨0,u,rfl,rfl,h.symm⟩
 | u :: us,p,j+2,x,h,hx=>by
  rw[bc,List.getElem?_cons_succ,List.getElem?_cons_succ]at h;obtain⟨i,v,rfl,hv,e⟩:=BD us u.c j x h hx;exact⟨i+1,v,by omega,by simpa using hv,e⟩
theorem Ep:∀(us:List Wu) (p:List UInt8) (i:Nat) (u:Wu),us[i]?=some u->(bc p us)[2*i+1]?=some (true,u.k,u.r)
 | [],p,i,u,h=>by simp at h
 | v :: us,p,0,u,h=>by simp at h;subst h;rfl
 | v :: us,p,i+1,u,h=>by
  rw[show 2*(i+1)+1=2*i+1+1+1 by omega,bc,List.getElem?_cons_succ,List.getElem?_cons_succ];exact Ep us v.c i u (by simpa using h)
theorem tQ:∀(us:List Wu) (i:Nat) (s:List UInt8),(bX (eK us i s)).length<=(bX us).length+s.length
 | [],i,s=>by simp[eK,bX]
 | u :: us,0,s=>by
  have e:eK (u :: us) 0 s=⟨u.o,u.k,s,u.c⟩ :: us:=by simp[eK]
  rw[e,dY,dY];simp only[List.length_append];omega
 | u :: us,i+1,s=>by
  have e:eK (u :: us) (i+1) s=u :: eK us i s:=by simp[eK]
  have ih:=tQ us i s;rw[e,dY,dY];simp only[List.length_append];omega
def TX(fmt:Int)(r:List UInt8):Prop:=∃f qs c,jC fmt f r qs c
theorem sk{fmt:Int}{p:List UInt8}{us:List Wu}(hm:zuu fmt p us)(hu:∀u∈us,TX fmt u.r)(hz:(p++bX us).length<=65536):oQ fmt (p++bX us)=(bc p us,0,0):=by
 have hk:fmt=1\/fmt=2\/fmt=3:=by rcases hm with h|h|h<;>simp[h.1]
 have hs:∀(i:Nat) (u:Wu),us[i]?=some u->Sep fmt u.r/\(jN fmt u.r).2.2.2=0:=λi u hi=>by
  obtain⟨f,qs,c,h⟩:=hu u (List.mem_of_getElem? hi);exact⟨h.sep,by rw[(h.reads hk).1]⟩
 rcases hm with⟨rfl,⟨h,hh,rfl⟩,h2⟩|⟨rfl,⟨h,hh,rfl⟩,hl,h2⟩|⟨rfl,au,hc,rfl,h2⟩
 ·exact LB (dE:=Mk.dE) (dig:=Lib.decDigits) hh (λi u hi=>⟨h2 i u hi,(hs i u hi).1.1 rfl,(hs i u hi).2⟩) hz rfl
 ·exact LC (dE:=dE) hh hl (λi u hi=>⟨h2 i u hi,(hs i u hi).1.2.1 rfl,(hs i u hi).2⟩) hz rfl
 exact LD (dE:=Sh.dE) (dig:=Lib.decDigits) hc (λi u hi=>⟨h2 i u hi,(hs i u hi).1.2.2 rfl,(hs i u hi).2⟩) hz rfl
structure gE (fmt:Int) (p:List UInt8) (us:List Wu) (i:Nat) (f:List It) (qs:List (List UInt8 × It)) (c:Nat):Prop where
 made:zuu fmt p us
 all:∀u∈us,TX fmt u.r
 unit:∃u,us[i]?=some u/\jC fmt f u.r qs c
 size:(p++bX us).length<=65536
section
variable {fmt:Int} {p:List UInt8} {us:List Wu} {i:Nat} {f:List It} {qs:List (List UInt8 × It)} {c:Nat}
theorem gE.kn(h:gE fmt p us i f qs c):fmt=1\/fmt=2\/fmt=3:=by rcases h.made with h|h|h<;>simp[h.1]
theorem gE.uN(h:gE fmt p us i f qs c):oQ fmt (b8 (bc p us))=(bc p us,0,0):=by rw[jn];exact sk h.made h.all h.size
theorem gE.valid(h:gE fmt p us i f qs c):fP (oQ fmt) (bc p us)=0:=by
 unfold fP;rw[h.uN,if_pos ⟨rfl,rfl⟩]
theorem gE.part(h:gE fmt p us i f qs c):∃u,us[i]?=some u/\jC fmt f u.r qs c/\gx (bc p us) ((2*i+1:Nat):Int)=(true,u.k,u.r):=by
 obtain⟨u,hu,hf⟩:=h.unit;refine⟨u,hu,hf,?_⟩;unfold gx;rw[if_pos (by omega),Int.toNat_natCast,Ep us p i u hu];rfl
theorem gE.cont(h:gE fmt p us i f qs c):bQ (jN fmt) (bc p us) ((2*i+1:Nat):Int)=(f,(List.range (qs.length+1)).map (cz qs),0,0):=by
 obtain⟨u,hu,hf,hp⟩:=h.part;unfold bQ;rw[hp,if_pos rfl];exact(hf.reads h.kn).1
theorem gE.uE(h:gE fmt p us i f qs c){rs:List (Int × Int)}{ts:List (List It)}(ig:bV (aA f) 0 rs=true)(hfit:Fits f rs ts)(ht:∀t∈ts,Nm t/\t.length<=512/\aA t<=1024)(Ib:(b6 f).length<=200)(xR:aA (cK f rs ts)<=1024)(hz:(bX (eK us i (a6 (bL (fM fmt) qs 0 rs ts)))).length+p.length<=65536) :
  eQ (jN fmt) (oQ fmt) (bn fmt) fmt (bc p us) ((2*i+1:Nat):Int) rs ts=((fmt,bc p (eK us i (a6 (bL (fM fmt) qs 0 rs ts)))),0) /\
   gE fmt p (eK us i (a6 (bL (fM fmt) qs 0 rs ts))) i (cK f rs ts) (bL (fM fmt) qs 0 rs ts) c:=by
 obtain⟨u,hu,hf,hp⟩:=h.part;obtain⟨s,a,g1,g2,g3⟩:=hf.uE h.kn ig hfit ht Ib xR
 have hd:gE fmt p (eK us i (a6 (bL (fM fmt) qs 0 rs ts))) i (cK f rs ts) (bL (fM fmt) qs 0 rs ts) c:=by
  refine⟨M5 h.made i _,λv hv=>?_,⟨⟨u.o,u.k,a6 (bL (fM fmt) qs 0 rs ts),u.c⟩,?_,g3⟩,by rw[List.length_append];omega⟩
  ·obtain⟨j,hj⟩:=List.mem_iff_getElem?.1 hv;obtain⟨w,hw,_,_,_,e|⟨_,e⟩⟩:=sN hj
   ·rw[e];exact h.all w (List.mem_of_getElem? hw)
   rw[e];exact⟨_,_,_,g3⟩
  unfold eK;rw[List.getElem?_modify,hu];simp
 refine⟨?_,hd⟩;unfold eQ
 rw[if_neg (by rw[h.valid];decide),h.cont,if_neg (by simp),if_neg (by
  rintro (e|e)
  ·exact e hfit.len.symm
  simp only at e;rw[ig]at e;cases e),hp]
 simp only;rw[g1];simp only;rw[g2,I0 (kP f rs ts) g3.ok];have hd2:=(g3.reads h.kn).1;unfold Cp;rw[Int.toNat_natCast,fG,if_neg (by rw[hd2];simp),if_neg (by rw[hd2];simp),if_neg (by rw[jn,List.length_append];omega)]
end
end St
def kF(fmt:Int)(ps:List St.Pt):Prop:=∃p us,ps=St.bc p us/\St.zuu fmt p us/\(St.b8 ps).length<=25000/\∀u∈us,∃f qs c,St.jC fmt f u.r qs c/\f.length<=10/\aY f<=115
theorem kF.kn{fmt:Int}{ps:List St.Pt}(h:kF fmt ps):fmt=1\/fmt=2\/fmt=3:=by
 obtain⟨p,us,_,h,_⟩:=h;rcases h with h|h|h<;>simp[h.1]
theorem kF.uN{fmt:Int}{ps:List St.Pt}(h:kF fmt ps):oQ fmt (St.b8 ps)=(ps,0,0):=by
 obtain⟨p,us,rfl,hm,hz,hu⟩:=h;rw[St.jn]at hz |-;exact St.sk hm (λu hx=>by obtain⟨f,qs,c,h,_⟩:=hu u hx;exact⟨f,qs,c,h⟩) (by omega)
theorem kF.from{fmt:Int}{ps:List St.Pt}(h:kF fmt ps):wZ fmt ps:=⟨h.kn,St.b8 ps,0,by obtain⟨_,_,_,_,hz,_⟩:=h;omega,h.uN⟩
theorem kF.unit{fmt:Int}{ps:List St.Pt}{k:Int}(h:kF fmt ps)(hc:(CD fmt ps k).2.2.2=0):∃p us i f qs c,ps=St.bc p us/\k=((2*i+1:Nat):Int)/\St.gE fmt p us i f qs c/\f.length<=10/\aY f<=115/\(p++St.bX us).length<=25000/\CD fmt ps k=(f,(List.range (qs.length+1)).map (St.cz qs),0,0):=by
 have hk:=h.kn;have e:CD fmt ps k=St.bQ (jN fmt) ps k:=by unfold CD;rw[if_pos hk]
 rw[e]at hc |-;obtain⟨p,us,rfl,hm,hz,hu⟩:=h;rw[St.jn]at hz
 have hp:(St.gx (St.bc p us) k).1=true:=by
  unfold St.bQ at hc
  split at hc
  ·rename_i h;exact h
  cases hc
 obtain⟨j,rfl,x,hx,hx1⟩:∃j:Nat,k=(j:Int)/\∃x,(St.bc p us)[j]?=some x/\x.1=true:=by
  unfold St.gx at hp
  split at hp
  ·rename_i h0
   cases hg:(St.bc p us)[k.toNat]? with
   | none=>rw[hg]at hp;cases hp
   | some x=>rw[hg]at hp;exact⟨k.toNat,by omega,x,hg,hp⟩
  cases hp
 obtain⟨i,u,rfl,hi,_⟩:=St.BD us p j x hx hx1;obtain⟨f,qs,c,hf,h1,h2⟩:=hu u (List.mem_of_getElem? hi);have hd:St.gE fmt p us i f qs c:=⟨hm,λv hv=>by obtain⟨f,qs,c,h,_⟩:=hu v hv;exact⟨f,qs,c,h⟩,⟨u,hi,hf⟩,by omega⟩;exact⟨p,us,i,f,qs,c,rfl,rfl,hd,h1,h2,hz,hd.cont⟩
end Go.Proofs.YthoemdibbldndaaGreatDoor
namespace Go.Proofs.YthoemdibbldndaaGreatDoor
namespace St
section
variable {fmt:Int} {p:List UInt8} {us:List Wu} {i:Nat} {f:List It} {qs:List (List UInt8 × It)} {c:Nat}
end
end St
