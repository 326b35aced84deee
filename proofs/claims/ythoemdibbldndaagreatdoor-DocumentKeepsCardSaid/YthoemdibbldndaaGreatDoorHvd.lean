/- Plain: units in the maker's forms: what reading gives, where they may stand, what. -/
import Derived.Test.YthoemdibbldndaaGreatDoorHvp
import Derived.Test.YthoemdibbldndaaGreatDoorDxE
set_option linter.all false
namespace Go.Proofs.YthoemdibbldndaaGreatDoor
namespace St
theorem Bw{p:It}(h:oK p):j2 b7 (cf (aK 2 p)) p:=by
 have h0:=yB p h;rcases h with⟨c,rfl⟩|⟨t,rfl,ht⟩
 ·have e:aK 2 (1,[c],0)=bj 2 c:=by simp[aK]
  rw[e]at h0 |-
  by_cases uS:c.toNat=32
  ·obtain rfl:=ik uS;exact⟨by decide,by decide,λ_=>rfl⟩
  have:cf (bj 2 c)=bj 2 c:=by
   have hn:∀d r,bj 2 c=d :: r->d.toNat≠32:=by
    intro d r hd;unfold bj at hd;simp only[Int.reduceEq,if_false,if_true]at hd
    repeat' split at hd
    all_goals
     simp only[List.cons.injEq]at hd
     first|(rw[<-hd.1];decide)|(rw[<-hd.1];exact uS)
   cases hb:bj 2 c with
   | nil=>rfl
   | cons d r=>rw[cf,if_neg (hn d r hb)]
  rw[this];exact h0
 have e:aK 2 (5,t,0)=123 :: (t++[125]):=by simp[aK]
 rw[e]at h0 |-;rw[cf,if_neg (by decide)];exact h0
theorem Eh{p:It}(h:oK p)(r:Nat):oJ b7 ([92,10]++dK r++cf (aK 2 p)) p:=by
 obtain⟨c,q,hc,hb⟩:=EH h;refine⟨by simp,λrest a d f cuts op c0 i cK c' hs hf=>?_⟩;have e:[92,10]++dK r++cf (aK 2 p)++rest=92 :: 10 :: (dK r++(cf (aK 2 p)++rest)):=by simp
 have hn:dS (dK r++(cf (aK 2 p)++rest))=(dK r).length:=by
  unfold dS;rw[List.takeWhile_append_of_pos (I7 r),hc,List.cons_append,List.takeWhile_cons_of_neg (by simp[hb])];simp
 have hk:b7 (92 :: 10 :: (dK r++(cf (aK 2 p)++rest)))=some (0,[],2+(dK r).length):=by rw[ku (by decide) (by decide),hn]
 rw[e,GF DN a d f cuts op c0 (by simp) hk]
 have e2:(92 :: 10 :: (dK r++(cf (aK 2 p)++rest))).drop (2+(dK r).length)=cf (aK 2 p)++rest:=by
  have:2+(dK r).length=(92 :: 10 :: dK r).length:=by simp;omega
  rw[this,show(92 :: 10 :: (dK r++(cf (aK 2 p)++rest)))=(92 :: 10 :: dK r)++(cf (aK 2 p)++rest)by simp,List.drop_left]
 have e3:a+(2+(dK r).length)+(cf (aK 2 p)).length=a+([92,10]++dK r++cf (aK 2 p)).length:=by simp;omega
 rw[e2,((Bw h).Bm DN).2 rest _ d f cuts op c0 i cK c' hs hf,e3]
def yn(fmt:Int)(p:It):Prop:=tc p/\(fmt≠1->oK p)
theorem CH{p:It}{b:List UInt8}(h:tc p)(hf:jU 1 p b):BA p b:=by
 rcases hf with rfl|⟨_,g1,g⟩|⟨e,_⟩
 ·exact .inl rfl
 ·obtain⟨c,rfl⟩:∃c,p=(1,[c],0):=by
   rcases h with⟨c,rfl⟩|⟨t,rfl,_⟩|⟨t,i,rfl|rfl,_⟩|⟨t,i,rfl,_⟩
   ·exact⟨c,rfl⟩
   all_goals exact absurd g1 (by simp)
  rcases g with⟨g2,rfl⟩|⟨g2,rfl⟩
  ·exact .inr (.inl ⟨by rw[show[c]=[62]from g2],rfl⟩)
  exact .inr (.inr ⟨by rw[show[c]=[125]from g2],rfl⟩)
 exact absurd e (by decide)
theorem xf{fmt:Int}(hk:fmt=1\/fmt=2\/fmt=3){p:It}{b:List UInt8}(h:yn fmt p)(hf:jU fmt p b):oJ (EO fmt) b p:=by
 have hE:=(yC hk).ok.QA;rcases hk with rfl|rfl|rfl
 ·exact(Ei h.1 (CH h.1 hf)).Bm hE
 ·have h1:=h.2 (by decide);rcases hf with rfl|⟨e,_⟩|⟨_,⟨g1,g2,rfl⟩|⟨r,_,rfl⟩⟩
  ·exact(yB p h1).Bm hE
  ·exact absurd e (by decide)
  ·obtain rfl:p=(1,[32],0):=by
    rcases h1 with⟨c,rfl⟩|⟨t,rfl,_⟩
    ·rw[show[c]=[32]from g2]
    exact absurd g1 (by simp)
   exact(show j2 b7 [92,115] (1,[32],0)from⟨by decide,by decide,λ_=>rfl⟩).Bm hE
  exact Eh h1 r
 have h1:=h.2 (by decide);rcases hf with rfl|⟨e,_⟩|⟨e,_⟩
 ·exact(tv p h1).Bm hE
 ·exact absurd e (by decide)
 exact absurd e (by decide)
def Sep(fmt:Int)(r:List UInt8):Prop:=(fmt=1->Ll r)/\(fmt=2->im r)/\(fmt=3->nG r)
theorem MP{fmt:Int}{ps:List (List UInt8 × It)}(h:∀q∈ps,yn fmt q.2/\jU fmt q.2 q.1):Sep fmt (a8 ps):=by
 refine⟨λe=>?_,λe=>?_,λe=>?_⟩
 ·subst e;intro b hb;exact CG hb λq hq=>⟨(h q hq).1.1,CH (h q hq).1.1 (h q hq).2⟩
 ·subst e;exact Fg λq hq=>OF ((h q hq).1.2 (by decide)) (h q hq).2
 subst e;refine DC λq hq=>?_
 rcases(h q hq).2 with e|⟨e,_⟩|⟨e,_⟩
 ·rw[e];exact Ks ((h q hq).1.2 (by decide))
 ·exact absurd e (by decide)
 exact absurd e (by decide)
theorem qe{fmt:Int}{p:It}(h:yn fmt p):BO fmt p.1 p.2.1/\(p.1=1->p.2.1.length=1):=by
 by_cases hf:fmt=1
 ·subst hf;rcases h.1 with⟨c,rfl⟩|⟨t,rfl,ht⟩|⟨t,i,rfl|rfl,h1,h2⟩|⟨t,i,rfl,h1,h2⟩
  ·exact⟨.inl rfl,λ_=>rfl⟩
  ·exact⟨.inr (.inl ⟨rfl,ht⟩),λe=>absurd e (by simp)⟩
  ·exact⟨.inr (.inr ⟨rfl,.inl ⟨.inl rfl,h1,h2⟩⟩),λe=>absurd e (by simp)⟩
  ·exact⟨.inr (.inr ⟨rfl,.inl ⟨.inr rfl,h1,h2⟩⟩),λe=>absurd e (by simp)⟩
  exact⟨.inr (.inr ⟨rfl,.inr ⟨rfl,h1,h2⟩⟩),λe=>absurd e (by simp)⟩
 rcases h.2 hf with⟨c,rfl⟩|⟨t,rfl,ht⟩
 ·exact⟨.inl rfl,λ_=>rfl⟩
 exact⟨.inr (.inl ⟨rfl,ht⟩),λe=>absurd e (by simp)⟩
theorem tA{fmt:Int}{p:It}{b:List UInt8}(h:yn fmt p)(hs:p.1≠1->p.2.1.length<=24)(hf:jU fmt p b):b.length<=40/\(aK fmt p).length<=27:=by
 have hi:∀fm:Int,(aK fm p).length<=27:=λfm=>by
  rcases h.1 with⟨c,rfl⟩|⟨t,rfl,ht⟩|⟨t,i,rfl|rfl,h1,h2⟩|⟨t,i,rfl,h1,h2⟩
  ·have e:aK fm (1,[c],0)=bj fm c:=by simp[aK]
   have:=li fm c
   rw[e];omega
  all_goals
   have:=hs (by simp)
   simp[aK]at this |-;omega
 refine⟨?_,hi fmt⟩;rcases hf with rfl|⟨_,_,⟨_,rfl⟩|⟨_,rfl⟩⟩|⟨_,⟨_,_,rfl⟩|⟨r,_,rfl⟩⟩
 ·have:=hi fmt;omega
 ·simp
 ·simp
 ·simp
 have h1:=hi 2;have h2:=x6 (aK 2 p);have h3:(dK r).length<=2:=by unfold dK;split;simp;split<;>simp
 simp;omega
structure jx (fmt:Int) (f:List It) (raw:List UInt8) (ps:List (List UInt8 × It)) (c:Nat):Prop where
 hold:jk fmt f
 ok:fy (aM f) [] 0=some ([],c)
 len:f.length<=512
 pos:aA f<=1024
 sml:∀x∈bY f,x.2.1.length<=24
 flat:raw=a8 ps
 ah:fE ps=aM f
 form:∀p∈ps,jU fmt p.2 p.1
section
variable {fmt:Int} {f:List It} {raw:List UInt8} {ps:List (List UInt8 × It)} {c:Nat}
theorem jx.mem(h:jx fmt f raw ps c){q:List UInt8 × It}(hq:q∈ps):q.2∈aM f:=by rw[<-h.ah];exact List.mem_map.2 ⟨q,hq,rfl⟩
theorem jx.all(h:jx fmt f raw ps c):∀q∈ps,yn fmt q.2/\jU fmt q.2 q.1:=λq hq=>⟨h.hold.H7 _ (h.mem hq),h.form q hq⟩
theorem jx.sep(h:jx fmt f raw ps c):Sep fmt raw:=by rw[h.flat];exact MP h.all
theorem jx.TG(h:jx fmt f raw ps c):ps.length=aA f:=by rw[<-ga,<-h.ah];simp[fE]
theorem F3{p:It}(hs:∀x∈bY f,x.2.1.length<=24)(hp:p∈aM f)(h1:p.1≠1):p.2.1.length<=24:=hs p (by rw[<-eT];exact List.mem_filter.2 ⟨hp,by simpa using h1⟩)
theorem Aa{m:Nat}:∀ {ps:List (List UInt8 × It)},(∀q∈ps,q.1.length<=m)->(a8 ps).length<=m*ps.length
 | [],_=>by simp[a8]
 | p :: ps,h=>by
  have:=Aa (m:=m) (ps:=ps) λq hq=>h q (by simp[hq])
  have e:a8 (p :: ps)=p.1++a8 ps:=by simp[a8]
  rw[e,List.length_append,List.length_cons,Nat.mul_add];have:=h p (by simp)
  omega
theorem jx.size(h:jx fmt f raw ps c):raw.length<=40*aA f:=by
 rw[h.flat,<-h.TG];exact Aa λq hq=>(tA (h.all q hq).1 (F3 h.sml (h.mem hq)) (h.all q hq).2).1
theorem jx.reads(hk:fmt=1\/fmt=2\/fmt=3)(h:jx fmt f raw ps c):lC fmt raw=(f,(List.range (ps.length+1)).map (cz ps),0,0)/\Gp (EO fmt) (BO fmt) raw (lC fmt raw) ps [] c:=by
 have hfl:=h.flat;subst hfl;have hf:(fE ps).foldl aL []=f:=by rw[h.ah];exact AT h.hold.nm (rk h.hold.nm)
 have hl:ps.length<=1024:=by rw[h.TG];exact h.pos
 have hd:=oR (E:=EO fmt) ps [] 0 0 [] [] [] 0 (λq hq=>xf hk (h.all q hq).1 (h.all q hq).2) (by rw[h.ah];exact h.ok) (by rw[hf];exact h.len) (by simpa using hl);rw[hf,List.append_nil,zR]at hd
 have e:(if ps=[]then 0 else 0+(a8 ps).length)=0+(a8 ps).length:=by
  split
  ·rename_i h;subst h;simp[a8]
  rfl
 have hr:lC fmt (a8 ps)=(f,(List.range (ps.length+1)).map (cz ps),0,0):=by
  rw[wX hk,hd,e];unfold jH;rw[if_pos rfl,List.nil_append,FP ps 0];simp
 refine⟨hr,by rw[List.append_nil],tail_nil _,λq hq=>xf hk (h.all q hq).1 (h.all q hq).2,λq hq=>(qe (h.all q hq).1).1,λq hq=>(qe (h.all q hq).1).2,by rw[h.ah];exact h.ok,by rw[hr,hf],by rw[hr],by rw[hr];exact h.len,hl⟩
theorem CF{f:List It}:∀ {rs:List (Int × Int)} {ts:List (List It)},Fits f rs ts->∀t∈ts,∃a b,bY t=bY (aY a b 0 f)
 | r :: rs,t :: ts,h,u,hu=>by
  rcases List.mem_cons.1 hu with rfl|hu
  ·exact⟨_,_,h.1⟩
  exact CF h.2 u hu
 | [],_ :: _,h,_,_=>h.elim
theorem FJ:∀(f:List It) (p:Bool),qL p f->f.length+(if p=true then 1 else 0)<=2*(bY f).length+1
 | [],p,_=>by cases p<;>simp
 | x :: f,p,h=>by
  have ih:=FJ f _ h.2
  by_cases h1:x.1=1
  ·have hp:=(h.1 h1).2.2;subst hp;have e:bY (x :: f)=bY f:=by unfold bY;rw[List.filter_cons_of_neg (by simp[h1])]
   rw[decide_eq_true h1]at ih;rw[e,List.length_cons];simp at ih |-;omega
  have e:bY (x :: f)=x :: bY f:=by unfold bY;rw[List.filter_cons_of_pos (by simp[h1])]
  rw[decide_eq_false h1]at ih;rw[e,List.length_cons,List.length_cons];cases p<;>simp at ih |-<;>omega
theorem FF{α:Type}(F:List It->List α)(l:List α):∀(rs:List (Int × Int)) (ts:List (List It)) (a:Nat),dd l.length a rs=true->a<=l.length->(cG F l a rs ts).length<=l.length-a+(ts.map λt=>(F t).length).sum
 | [],ts,a,_,_=>by simp[cG]
 | r :: rs,[],a,_,_=>by simp[cG]
 | r :: rs,t :: ts,a,h,ha=>by
  rw[dd]at h
  split at h
  ·cases h
  rename_i hn
  obtain⟨p,q⟩:=r;simp only at hn h;obtain⟨p,rfl⟩:∃p':Nat,p=p':=⟨p.toNat,by omega⟩;obtain⟨q,rfl⟩:∃q':Nat,q=q':=⟨q.toNat,by omega⟩;have ih:=FF F l rs ts q h (by omega);rw[cG];simp only[Int.toNat_natCast,List.length_append,List.length_drop,List.length_take,List.map_cons,List.sum_cons];omega
theorem ME{f:List It}{rs:List (Int × Int)}{ts:List (List It)}{m:Nat}(gh:dd (aA f) 0 rs=true)(hm:∀t∈ts,aA t<=m):aA (cd f rs ts)<=aA f+m*ts.length:=by
 rw[<-ga,vW];have h:=FF aM (aM f) rs ts 0 (by rw[ga];exact gh) (Nat.zero_le _)
 have hs:(ts.map λt=>(aM t).length).sum<=m*ts.length:=by
  clear h gh
  induction ts with
  | nil=>simp
  | cons t ts ih=>
   have:=ih λu hu=>hm u (by simp[hu])
   have h1:=hm t (by simp);rw[<-ga]at h1;rw[List.map_cons,List.sum_cons,List.length_cons,Nat.mul_add];omega
 rw[ga]at h;omega
theorem jx.Ig(hk:fmt=1\/fmt=2\/fmt=3)(h:jx fmt f raw ps c){rs:List (Int × Int)}{ts:List (List It)}(gh:dd (aA f) 0 rs=true)(hfit:Fits f rs ts)(ht:∀t∈ts,Nm t/\t.length<=512/\aA t<=1024)(GU:(bY f).length<=200)(xl:aA (cd f rs ts)<=1024) :
  ∃s a,lZ (bw fmt) raw ((List.range (ps.length+1)).map (cz ps)) 0 [] rs ts=.ok (s,a)/\s++raw.drop a=a8 (cG (fI fmt) ps 0 rs ts)/\jx fmt (cd f rs ts) (a8 (cG (fI fmt) ps 0 rs ts)) (cG (fI fmt) ps 0 rs ts) c:=by
 obtain⟨hr,hp⟩:=h.reads hk
 have hh:∀t∈ts,jk fmt t:=λt hm=>by
  obtain⟨a,b,e⟩:=CF hfit t hm;exact L4 h.hold (ht t hm).1 e
 have hno:=AZ hfit gh
 have hlen:(cd f rs ts).length<=512:=by
  have:=FJ _ _ (xP (oB f rs ts))
  rw[hno]at this;simp at this;omega
 have hok:fy (aM (cd f rs ts)) [] 0=some ([],c):=Ph hfit gh (λx hx hn=>vQ _ _ _ h.ok x (List.mem_filter.1 (by rw[<-eT]at hx;exact hx)).1 hn) h.ok;rw[hr]at hp;obtain⟨s,a,g1,g2,g3,g4,_⟩:=Ih hp gh hfit.len (λt hm=>(hh t hm).enc (ht t hm).2.1 (ht t hm).2.2) (λt hm=>(hh t hm).piece hk) hok hlen xl;refine⟨s,a,g1,by rw[g2,List.append_nil],⟨oB _ _ _,by rw[hno];exact h.hold.items,?_⟩,hok,hlen,xl,by rw[hno];exact h.sml,rfl,g3,λp hp=>?_⟩
 ·rw[ko,<-jh,hno,jh,<-ko];exact h.hold.bE
 rcases g4 p hp with hp|⟨t,_,hp⟩
 ·exact h.form p hp
 obtain⟨q,_,rfl⟩:=List.mem_map.1 hp;exact .inl rfl
end
end St
end Go.Proofs.YthoemdibbldndaaGreatDoor
namespace Go.Proofs.YthoemdibbldndaaGreatDoor
namespace St
def ux(fmt:Int)(p:List UInt8)(us:List Wu):Prop:=
 (fmt=1/\(∃h,h<3/\p=jp h)/\∀i u,us[i]?=some u->NG Lib.decDigits i u)\/
 (fmt=2/\(∃h,h<3/\p=jV h)/\us.length<10/\∀i u,us[i]?=some u->E5 us.length i u)\/
 (fmt=3/\∃au,au<3/\p=mg au/\∀i u,us[i]?=some u->E6 Lib.decDigits au i u)
def fF(us:List Wu)(i:Nat)(s:List UInt8):List Wu:=us.modify i λu=>⟨u.o,u.k,s,u.c⟩
theorem sq{us:List Wu}{i j:Nat}{s:List UInt8}{v:Wu}(h:(fF us i s)[j]?=some v):∃u,us[j]?=some u/\v.o=u.o/\v.k=u.k/\v.c=u.c/\(v=u\/(i=j/\v.r=s)):=by
 unfold fF at h;rw[List.getElem?_modify]at h;cases hu:us[j]? with
 | none=>rw[hu]at h;cases h
 | some u=>
  rw[hu]at h;simp only[Option.map_eq_map,Option.map_some,Option.some.injEq]at h
  by_cases hij:i=j
  ·rw[if_pos hij]at h;subst h;exact⟨u,rfl,rfl,rfl,rfl,.inr ⟨hij,rfl⟩⟩
  rw[if_neg hij]at h;subst h;exact⟨_,rfl,rfl,rfl,rfl,.inl rfl⟩
theorem DW(us:List Wu)(i:Nat)(s:List UInt8):(fF us i s).length=us.length:=by simp[fF]
theorem Mh{fmt:Int}{p:List UInt8}{us:List Wu}(h:ux fmt p us)(i:Nat)(s:List UInt8):ux fmt p (fF us i s):=by
 rcases h with⟨h0,h1,h2⟩|⟨h0,h1,h2,h3⟩|⟨h0,au,h1,h2,h3⟩
 ·refine .inl ⟨h0,h1,λj v hv=>?_⟩;obtain⟨u,hu,e1,e2,e3,_⟩:=sq hv;obtain⟨a,b,t,k1,k2,k3,k4⟩:=h2 j u hu;exact⟨a,b,t,k1,by rw[e1,k2],by rw[e2,k3],by rw[e3,k4]⟩
 ·refine .inr (.inl ⟨h0,h1,by rw[DW];exact h2,λj v hv=>?_⟩);obtain⟨u,hu,e1,e2,e3,_⟩:=sq hv;obtain⟨t,k1,k2,k3,k4⟩:=h3 j u hu;rw[DW];exact⟨t,k1,by rw[e1,k2],by rw[e2,k3],by rw[e3,k4]⟩
 refine .inr (.inr ⟨h0,au,h1,h2,λj v hv=>?_⟩);obtain⟨u,hu,e1,e2,e3,_⟩:=sq hv;obtain⟨k2,k3,k4⟩:=h3 j u hu;exact⟨by rw[e1,k2],by rw[e2,k3],by rw[e3,k4]⟩
theorem gH:∀(us:List Wu) (p:List UInt8) (i:Nat) (s:List UInt8),dI (bo p us) (2*i+1) s=bo p (fF us i s)
 | [],p,i,s=>by
  unfold dI fF;rw[List.modify_eq_self (by simp[bo])];simp[bo]
 | u :: us,p,0,s=>by simp[dI,fF,bo]
 | u :: us,p,i+1,s=>by
  have ih:=gH us u.c i s;unfold dI fF at ih |-;rw[show 2*(i+1)+1=2*i+1+1+1 by omega,bo,List.modify_succ_cons,List.modify_succ_cons,List.modify_succ_cons,bo,ih]
theorem AR:∀(us:List Wu) (p:List UInt8) (j:Nat) (x:Pt),(bo p us)[j]?=some x->x.1=true->∃i u,j=2*i+1/\us[i]?=some u/\x=(true,u.k,u.r)
 | [],p,j,x,h,hx=>by
  cases j with
  | zero=>simp[bo]at h;subst h;cases hx
  | succ j=>simp[bo]at h
 | u :: us,p,0,x,h,hx=>by simp[bo]at h;subst h;cases hx
 | u :: us,p,1,x,h,hx=>by
  simp[bo]at h;exact⟨0,u,rfl,rfl,h.symm⟩
 | u :: us,p,j+2,x,h,hx=>by
  rw[bo,List.getElem?_cons_succ,List.getElem?_cons_succ]at h;obtain⟨i,v,rfl,hv,e⟩:=AR us u.c j x h hx;exact⟨i+1,v,by omega,by simpa using hv,e⟩
theorem Dy:∀(us:List Wu) (p:List UInt8) (i:Nat) (u:Wu),us[i]?=some u->(bo p us)[2*i+1]?=some (true,u.k,u.r)
 | [],p,i,u,h=>by simp at h
 | v :: us,p,0,u,h=>by simp at h;subst h;rfl
 | v :: us,p,i+1,u,h=>by
  rw[show 2*(i+1)+1=2*i+1+1+1 by omega,bo,List.getElem?_cons_succ,List.getElem?_cons_succ];exact Dy us v.c i u (by simpa using h)
theorem zJ:∀(us:List Wu) (i:Nat) (s:List UInt8),(bW (fF us i s)).length<=(bW us).length+s.length
 | [],i,s=>by simp[fF,bW]
 | u :: us,0,s=>by
  have e:fF (u :: us) 0 s=⟨u.o,u.k,s,u.c⟩ :: us:=by simp[fF]
  rw[e,dX,dX];simp only[List.length_append];omega
 | u :: us,i+1,s=>by
  have e:fF (u :: us) (i+1) s=u :: fF us i s:=by simp[fF]
  have ih:=zJ us i s;rw[e,dX,dX];simp only[List.length_append];omega
def TC(fmt:Int)(r:List UInt8):Prop:=∃f qs c,jx fmt f r qs c
theorem rZ{fmt:Int}{p:List UInt8}{us:List Wu}(hm:ux fmt p us)(hu:∀u∈us,TC fmt u.r)(hz:(p++bW us).length<=65536):sD fmt (p++bW us)=(bo p us,0,0):=by
 have hk:fmt=1\/fmt=2\/fmt=3:=by rcases hm with h|h|h<;>simp[h.1]
 have hs:∀(i:Nat) (u:Wu),us[i]?=some u->Sep fmt u.r/\(lC fmt u.r).2.2.2=0:=λi u hi=>by
  obtain⟨f,qs,c,h⟩:=hu u (List.mem_of_getElem? hi);exact⟨h.sep,by rw[(h.reads hk).1]⟩
 rcases hm with⟨rfl,⟨h,hh,rfl⟩,h2⟩|⟨rfl,⟨h,hh,rfl⟩,hl,h2⟩|⟨rfl,au,hc,rfl,h2⟩
 ·exact KP (dE:=Mk.dE) (dig:=Lib.decDigits) hh (λi u hi=>⟨h2 i u hi,(hs i u hi).1.1 rfl,(hs i u hi).2⟩) hz rfl
 ·exact KQ (dE:=dE) hh hl (λi u hi=>⟨h2 i u hi,(hs i u hi).1.2.1 rfl,(hs i u hi).2⟩) hz rfl
 exact KR (dE:=Sh.dE) (dig:=Lib.decDigits) hc (λi u hi=>⟨h2 i u hi,(hs i u hi).1.2.2 rfl,(hs i u hi).2⟩) hz rfl
structure jF (fmt:Int) (p:List UInt8) (us:List Wu) (i:Nat) (f:List It) (qs:List (List UInt8 × It)) (c:Nat):Prop where
 made:ux fmt p us
 all:∀u∈us,TC fmt u.r
 unit:∃u,us[i]?=some u/\jx fmt f u.r qs c
 size:(p++bW us).length<=65536
section
variable {fmt:Int} {p:List UInt8} {us:List Wu} {i:Nat} {f:List It} {qs:List (List UInt8 × It)} {c:Nat}
theorem jF.kn(h:jF fmt p us i f qs c):fmt=1\/fmt=2\/fmt=3:=by rcases h.made with h|h|h<;>simp[h.1]
theorem jF.ug(h:jF fmt p us i f qs c):sD fmt (b6 (bo p us))=(bo p us,0,0):=by rw[kq];exact rZ h.made h.all h.size
theorem jF.valid(h:jF fmt p us i f qs c):fL (sD fmt) (bo p us)=0:=by
 unfold fL;rw[h.ug,if_pos ⟨rfl,rfl⟩]
theorem jF.part(h:jF fmt p us i f qs c):∃u,us[i]?=some u/\jx fmt f u.r qs c/\gl (bo p us) ((2*i+1:Nat):Int)=(true,u.k,u.r):=by
 obtain⟨u,hu,hf⟩:=h.unit;refine⟨u,hu,hf,?_⟩;unfold gl;rw[if_pos (by omega),Int.toNat_natCast,Dy us p i u hu];rfl
theorem jF.cont(h:jF fmt p us i f qs c):bO (lC fmt) (bo p us) ((2*i+1:Nat):Int)=(f,(List.range (qs.length+1)).map (cz qs),0,0):=by
 obtain⟨u,hu,hf,hp⟩:=h.part;unfold bO;rw[hp,if_pos rfl];exact(hf.reads h.kn).1
theorem jF.Ig(h:jF fmt p us i f qs c){rs:List (Int × Int)}{ts:List (List It)}(gh:dd (aA f) 0 rs=true)(hfit:Fits f rs ts)(ht:∀t∈ts,Nm t/\t.length<=512/\aA t<=1024)(GU:(bY f).length<=200)(xl:aA (cd f rs ts)<=1024)(hz:(bW (fF us i (a8 (cG (fI fmt) qs 0 rs ts)))).length+p.length<=65536) :
  fQ (lC fmt) (sD fmt) (bw fmt) fmt (bo p us) ((2*i+1:Nat):Int) rs ts=((fmt,bo p (fF us i (a8 (cG (fI fmt) qs 0 rs ts)))),0) /\
   jF fmt p (fF us i (a8 (cG (fI fmt) qs 0 rs ts))) i (cd f rs ts) (cG (fI fmt) qs 0 rs ts) c:=by
 obtain⟨u,hu,hf,hp⟩:=h.part;obtain⟨s,a,g1,g2,g3⟩:=hf.Ig h.kn gh hfit ht GU xl
 have hd:jF fmt p (fF us i (a8 (cG (fI fmt) qs 0 rs ts))) i (cd f rs ts) (cG (fI fmt) qs 0 rs ts) c:=by
  refine⟨Mh h.made i _,λv hv=>?_,⟨⟨u.o,u.k,a8 (cG (fI fmt) qs 0 rs ts),u.c⟩,?_,g3⟩,by rw[List.length_append];omega⟩
  ·obtain⟨j,hj⟩:=List.mem_iff_getElem?.1 hv;obtain⟨w,hw,_,_,_,e|⟨_,e⟩⟩:=sq hj
   ·rw[e];exact h.all w (List.mem_of_getElem? hw)
   rw[e];exact⟨_,_,_,g3⟩
  unfold fF;rw[List.getElem?_modify,hu];simp
 refine⟨?_,hd⟩;unfold fQ
 rw[if_neg (by rw[h.valid];decide),h.cont,if_neg (by simp),if_neg (by
  rintro (e|e)
  ·exact e hfit.len.symm
  simp only at e;rw[gh]at e;cases e),hp]
 simp only;rw[g1];simp only;rw[g2,xU (oB f rs ts) g3.ok];have hd2:=(g3.reads h.kn).1;unfold BJ;rw[Int.toNat_natCast,gH,if_neg (by rw[hd2];simp),if_neg (by rw[hd2];simp),if_neg (by rw[kq,List.length_append];omega)]
end
end St
def kD(fmt:Int)(ps:List St.Pt):Prop:=∃p us,ps=St.bo p us/\St.ux fmt p us/\(St.b6 ps).length<=25000/\∀u∈us,∃f qs c,St.jx fmt f u.r qs c/\f.length<=10/\aV f<=115
theorem kD.kn{fmt:Int}{ps:List St.Pt}(h:kD fmt ps):fmt=1\/fmt=2\/fmt=3:=by
 obtain⟨p,us,_,h,_⟩:=h;rcases h with h|h|h<;>simp[h.1]
theorem kD.ug{fmt:Int}{ps:List St.Pt}(h:kD fmt ps):sD fmt (St.b6 ps)=(ps,0,0):=by
 obtain⟨p,us,rfl,hm,hz,hu⟩:=h;rw[St.kq]at hz |-;exact St.rZ hm (λu hx=>by obtain⟨f,qs,c,h,_⟩:=hu u hx;exact⟨f,qs,c,h⟩) (by omega)
theorem kD.from{fmt:Int}{ps:List St.Pt}(h:kD fmt ps):wv fmt ps:=⟨h.kn,St.b6 ps,0,by obtain⟨_,_,_,_,hz,_⟩:=h;omega,h.ug⟩
theorem kD.unit{fmt:Int}{ps:List St.Pt}{k:Int}(h:kD fmt ps)(hc:(CD fmt ps k).2.2.2=0):∃p us i f qs c,ps=St.bo p us/\k=((2*i+1:Nat):Int)/\St.jF fmt p us i f qs c/\f.length<=10/\aV f<=115/\(p++St.bW us).length<=25000/\CD fmt ps k=(f,(List.range (qs.length+1)).map (St.cz qs),0,0):=by
 have hk:=h.kn;have e:CD fmt ps k=St.bO (lC fmt) ps k:=by unfold CD;rw[if_pos hk]
 rw[e]at hc |-;obtain⟨p,us,rfl,hm,hz,hu⟩:=h;rw[St.kq]at hz
 have hp:(St.gl (St.bo p us) k).1=true:=by
  unfold St.bO at hc
  split at hc
  ·rename_i h;exact h
  cases hc
 obtain⟨j,rfl,x,hx,hx1⟩:∃j:Nat,k=(j:Int)/\∃x,(St.bo p us)[j]?=some x/\x.1=true:=by
  unfold St.gl at hp
  split at hp
  ·rename_i h0
   cases hg:(St.bo p us)[k.toNat]? with
   | none=>rw[hg]at hp;cases hp
   | some x=>rw[hg]at hp;exact⟨k.toNat,by omega,x,hg,hp⟩
  cases hp
 obtain⟨i,u,rfl,hi,_⟩:=St.AR us p j x hx hx1;obtain⟨f,qs,c,hf,h1,h2⟩:=hu u (List.mem_of_getElem? hi);have hd:St.jF fmt p us i f qs c:=⟨hm,λv hv=>by obtain⟨f,qs,c,h,_⟩:=hu v hv;exact⟨f,qs,c,h⟩,⟨u,hi,hf⟩,by omega⟩;exact⟨p,us,i,f,qs,c,rfl,rfl,hd,h1,h2,hz,hd.cont⟩
end Go.Proofs.YthoemdibbldndaaGreatDoor
namespace Go.Proofs.YthoemdibbldndaaGreatDoor
namespace St
section
variable {fmt:Int} {p:List UInt8} {us:List Wu} {i:Nat} {f:List It} {qs:List (List UInt8 × It)} {c:Nat}
end
end St
