/- Plain: a raw content that is read without an error is pieces, whatever stands behind them. -/
import Derived.Test.YthoemdibbldndaaGreatDoorRsB
import Derived.Test.YthoemdibbldndaaGreatDoorDcD
set_option linter.all false
namespace Go.Proofs.YthoemdibbldndaaGreatDoor.St
def oJ(E:List UInt8->El)(b:List UInt8)(x:It):Prop:=b≠[]/\∀(rest:List UInt8) (a d:Nat) (f:List It) (cuts:List Nat) (op:List It) (c:Nat) (i:Int) (cK:List It) (c':Nat),stepT op c x.1 x.2.1=some (i,cK,c')->¬GR f (x.1,x.2.1,i) cuts ->
 eK E (b++rest) a d f cuts op c=eK E rest (a+b.length) (a+b.length) (aL f (x.1,x.2.1,i)) (cuts++[d]) cK c'
theorem j2.Bm{E:List UInt8->El}(hE:ur E){b:List UInt8}{x:It}(h:j2 E b x):oJ E b x:=by
 obtain⟨hb,hk,h1⟩:=h;refine⟨hb,λrest a d f cuts op c i cK c' hs hf=>?_⟩;rw[GG hE a d f cuts (by simp[hb]) (h1 rest) hk hs hf,List.drop_left]
theorem oR{E:List UInt8->El}:∀(ps:List (List UInt8 × It)) (rest:List UInt8) (a d:Nat) (f:List It) (cuts:List Nat) (op:List It) (c:Nat) {cK:List It} {c':Nat},(∀p∈ps,oJ E p.1 p.2)->fy (fE ps) op c=some (cK,c')->((fE ps).foldl aL f).length<=512->cuts.length+ps.length<=1024 ->
  eK E (a8 ps++rest) a d f cuts op c=eK E rest (a+(a8 ps).length) (if ps=[]then d else a+(a8 ps).length) ((fE ps).foldl aL f) (cuts++vO a d ps) cK c'
 | [],rest,a,d,f,cuts,op,c,cK,c',_,ho,_,_=>by
  simp only[fE,List.map_nil,fy,Option.some.injEq,Prod.mk.injEq]at ho;obtain⟨rfl,rfl⟩:=ho;simp[a8,fE,vO]
 | p :: ps,rest,a,d,f,cuts,op,c,cK,c',hp,ho,hl,hc=>by
  obtain⟨hb,h1⟩:=hp p (by simp);have hl':((fE ps).foldl aL (aL f p.2)).length<=512:=hl;have e:a8 (p :: ps)++rest=p.1++(a8 ps++rest):=by simp[a8]
  have ho':fy (p.2 :: fE ps) op c=some (cK,c'):=ho;rw[fy]at ho';cases hs:stepT op c p.2.1 p.2.2.1 with
  | none=>rw[hs]at ho';cases ho'
  | some y=>
   obtain⟨i,xR,c2⟩:=y;rw[hs]at ho';simp only at ho'
   split at ho'
   ·rename_i hi
    subst hi;have hx:((p.2.1,p.2.2.1,p.2.2.2):It)=p.2:=rfl
    have hfn:¬GR f (p.2.1,p.2.2.1,p.2.2.2) cuts:=by
     rw[hx];rintro (h|h)
     ·have:=Bs (fE ps) (aL f p.2);omega
     simp at hc;omega
    rw[e,h1 _ a d f cuts op c _ _ _ hs hfn,hx];rw[oR ps rest _ _ _ _ _ _ (λq hq=>hp q (by simp[hq])) ho' hl' (by simp at hc |-;omega)];have e2:a+p.1.length+(a8 ps).length=a+(a8 (p :: ps)).length:=by simp[a8];omega
    have e3:(if ps=[]then a+p.1.length else a+p.1.length+(a8 ps).length)=a+(a8 (p :: ps)).length:=by
     split
     ·rename_i h;subst h;simp[a8]
     exact e2
    rw[e2];rw[e2]at e3;rw[e3];simp[fE,vO]
   cases ho'
structure Bz (E:List UInt8->El) (G:Int->List UInt8->Prop):Prop where
 ok:qm E
 elem:∀l k t n,E l=some (k,t,n)->k≠0->G k t/\∀rest,E (l.take n++rest)=some (k,t,n)
 skip:∀l t n,E l=some (0,t,n)->∀c r r',l.drop n=c :: r->E (l.take n++c :: r')=some (0,t,n)
theorem qm.QA{E:List UInt8->El}(h:qm E):ur E:=λl k t n e=>let ⟨h1,h2,_⟩:=h l k t n e;⟨h1,h2⟩
theorem GF{E:List UInt8->El}(hE:ur E){l t:List UInt8}{n:Nat}(a d:Nat)(f:List It)(cuts:List Nat)(op:List It)(c:Nat)(h0:l≠[])(h:E l=some (0,t,n)):eK E l a d f cuts op c=eK E (l.drop n) (a+n) d f cuts op c:=by
 unfold eK;obtain⟨m,hm⟩:=F5 h0;have hn:=hE _ _ _ _ h;rw[hm,lF _ _ _ _ _ h0 h];exact pS hE _ _ _ _ _ _ _ _ _ (by simp;omega) (by simp)
def NH(E:List UInt8->El)(tl:List UInt8):Prop:=∀(a d:Nat) (f:List It) (cuts:List Nat) (op:List It) (c:Nat),eK E tl a d f cuts op c=jH (a+tl.length) d f cuts op
theorem tail_nil(E:List UInt8->El):NH E []:=λa d f cuts op c=>zR E a d f cuts op c
structure Gp (E:List UInt8->El) (G:Int->List UInt8->Prop) (raw:List UInt8) (R:gr) (ps:List (List UInt8 × It)) (tl:List UInt8) (c:Nat):Prop where
 flat:raw=a8 ps++tl
 tail:NH E tl
 piece:∀p∈ps,oJ E p.1 p.2
 good:∀p∈ps,G p.2.1 p.2.2.1
 one:∀p∈ps,p.2.1=1->p.2.2.1.length=1
 ok:fy (fE ps) [] 0=some ([],c)
 items:R.1=(fE ps).foldl aL []
 cuts:R.2.1=(List.range (ps.length+1)).map (cz ps)
 len:R.1.length<=512
 pos:ps.length<=1024
end Go.Proofs.YthoemdibbldndaaGreatDoor.St
namespace Go.Proofs.YthoemdibbldndaaGreatDoor.St
def cG{α:Type}(F:List It->List α)(l:List α):Nat->List (Int × Int)->List (List It)->List α
 | a,r :: rs,t :: ts=>(l.take r.1.toNat).drop a++(F t++cG F l r.2.toNat rs ts)
 | a,_,_=>l.drop a
theorem FG{α β:Type}(g:α->β)(F:List It->List α)(l:List α):∀(rs:List (Int × Int)) (ts:List (List It)) (a:Nat),(cG F l a rs ts).map g=cG (λt=>(F t).map g) (l.map g) a rs ts
 | [],_,a=>by simp[cG]
 | r :: rs,[],a=>by simp[cG]
 | r :: rs,t :: ts,a=>by
  rw[cG,cG,List.map_append,List.map_append,FG g F l rs ts,List.map_drop,List.map_take]
theorem FH{α:Type}{F:List It->List α}{l:List α}{x:α}:∀(rs:List (Int × Int)) (ts:List (List It)) (a:Nat),x∈cG F l a rs ts->x∈l\/∃t∈ts,x∈F t
 | [],_,a,h=>.inl (List.mem_of_mem_drop h)
 | r :: rs,[],a,h=>.inl (List.mem_of_mem_drop h)
 | r :: rs,t :: ts,a,h=>by
  rw[cG]at h;rcases List.mem_append.1 h with h|h
  ·exact .inl (List.mem_of_mem_take (List.mem_of_mem_drop h))
  rcases List.mem_append.1 h with h|h
  ·exact .inr ⟨t,by simp,h⟩
  rcases FH rs ts _ h with h|⟨u,hu,h⟩
  ·exact .inl h
  exact .inr ⟨u,by simp[hu],h⟩
theorem pw(a b:List It):aM (a++b)=aM a++aM b:=by simp[aM]
theorem Dz(f:List It)(x:It):aM (aL f x)=aM f++aM [x]:=by
 by_cases h:x.1=1
 ·have e:aL f x=aL f (1,x.2.1,0):=by unfold aL;simp[h]
  rw[e,AS];simp[aM,h]
 rw[io h,pw]
theorem tU:∀(f g:List It),aM (f.foldl aL g)=aM g++aM f
 | [],g=>by simp[aM]
 | x :: f,g=>by
  rw[List.foldl_cons,tU f,Dz,List.append_assoc,<-pw];rfl
theorem tV(f:List It):aM (bl f)=aM f:=tU f []
theorem yU:∀(f g:List It),Nm g->Nm (f.foldl aL g)
 | [],_,h=>h
 | x :: f,_,h=>yU f _ (eH h x)
theorem OZ(f:List It):Nm (bl f):=yU f [] nQ
theorem Dq:∀(f:List It) (p:Bool),qL p f->∀x∈f,x.1=1->x.2.2=0
 | y :: f,p,h,x,hx,h1=>by
  rcases List.mem_cons.1 hx with rfl|hx
  ·exact(h.1 h1).2.1
  exact Dq f _ h.2 x hx h1
theorem rk{f:List It}(h:Nm f):∀x∈f,x.1=1->x.2.2=0:=Dq f _ (xP h)
theorem AY(f:List It):∀(rs:List (Int × Int)) (ts:List (List It)) (a:Nat) (out:List It),aM (kK f a out rs ts).1++(aM f).drop (kK f a out rs ts).2=aM out++cG aM (aM f) a rs ts
 | [],_,a,out=>by simp[kK,cG]
 | r :: rs,[],a,out=>by simp[kK,cG]
 | r :: rs,t :: ts,a,out=>by
  rw[kK,cG,AY f rs ts,tV,pw,tV,pw,lO];simp[List.append_assoc]
theorem vW(f:List It)(rs:List (Int × Int))(ts:List (List It)):aM (cd f rs ts)=cG aM (aM f) 0 rs ts:=by
 have h:=AY f rs ts 0 [];unfold cd;rw[tV,pw,lO];rw[show aA f-0=(aM f).length by rw[ga];omega,List.take_length];simpa[aM]using h
theorem oB(f:List It)(rs:List (Int × Int))(ts:List (List It)):Nm (cd f rs ts):=OZ _
theorem Db(ps:List (List UInt8 × It)):fE ps=ps.map (·.2):=rfl
def fI(fmt:Int)(t:List It):List (List UInt8 × It):=(aM t).map λp=>(aK fmt p,p)
theorem Lz(fmt:Int)(t:List It):a8 (fI fmt t)=(aM t).flatMap (aK fmt):=by unfold a8 fI;rw[List.flatMap_map]
theorem OD(fmt:Int)(t:List It):(fI fmt t).map (·.2)=aM t:=by
 unfold fI;rw[List.map_map]
 show(aM t).map (λp=>p)=_
 simp
theorem Fc{fmt:Int}{raw tl:List UInt8}{ps:List (List UInt8 × It)}{cuts:List Nat}(pg:raw=a8 ps++tl)(hc:cuts=(List.range (ps.length+1)).map (cz ps)):∀(rs:List (Int × Int)) (ts:List (List It)) (a:Nat) (s:List UInt8),dd ps.length a rs=true->a<=ps.length->rs.length=ts.length->(∀t∈ts,bw fmt t=((aM t).flatMap (aK fmt),0)) ->
  ∃s' a',lZ (bw fmt) raw cuts (cz ps a) s rs ts=.ok (s',a')/\s'++raw.drop a'=s++(a8 (cG (fI fmt) ps a rs ts)++tl)
 | [],ts,a,s,_,ha,_,_=>by
  refine⟨s,cz ps a,by rw[lZ];intros;simp_all,?_⟩;have e:a8 ps=a8 (ps.take a)++a8 (ps.drop a):=by rw[<-iN,List.take_append_drop]
  rw[cG,pg,e,List.append_assoc,show cz ps a=(a8 (ps.take a)).length from rfl,List.drop_left]
  intros;simp_all
 | r :: rs,[],a,s,_,_,hl,_=>by simp at hl
 | r :: rs,t :: ts,a,s,h,ha,hl,ht=>by
  rw[dd]at h
  split at h
  ·cases h
  rename_i hn
  obtain⟨p,q⟩:=r;simp only at hn h;obtain⟨p,rfl⟩:∃p':Nat,p=p':=⟨p.toNat,by omega⟩;obtain⟨q,rfl⟩:∃q':Nat,q=q':=⟨q.toNat,by omega⟩
  have hg:∀j,j<=ps.length->cuts.getD j 0=cz ps j:=λj hj=>by
   rw[hc,List.getD_eq_getElem?_getD,List.getElem?_map,List.getElem?_range (by omega)];rfl
  have TX:=ht t (by simp)
  have htk:(raw.take (cz ps p)).drop (cz ps a)=a8 ((ps.take p).drop a):=by
   rw[pg,List.take_append_of_le_length (SX ps (by omega))];exact LC ps (by omega)
  obtain⟨s',a',g1,g2⟩:=Fc pg hc rs ts q (s++(a8 ((ps.take p).drop a)++(bw fmt t).1)) h (by omega) (by simpa using hl) λu hu=>ht u (by simp[hu])
  refine⟨s',a',?_,?_⟩
  ·rw[lZ,if_neg (by rw[TX];simp)];simp only[Int.toNat_natCast];rw[hg p (by omega),hg q (by omega),htk];exact g1
  rw[g2,cG,iN,iN,Lz,TX];simp[List.append_assoc]
theorem vQ:∀(ps op:List It) (c:Nat) {r:List It × Nat},fy ps op c=some r->∀p∈ps,aQ p.1=false->p.2.2=0
 | p :: ps,op,c,r,h,q,hq,hk=>by
  rw[fy]at h;cases hs:stepT op c p.1 p.2.1 with
  | none=>rw[hs]at h;cases h
  | some y=>
   obtain⟨i,xR,c2⟩:=y;rw[hs]at h;simp only at h
   split at h
   ·rename_i hi
    rcases List.mem_cons.1 hq with rfl|hq
    ·unfold stepT at hs;simp only[aQ,decide_eq_false_iff_not,not_or]at hk;rw[if_neg hk.2.1,if_neg hk.1,if_neg hk.2.2]at hs;simp only[Option.some.injEq,Prod.mk.injEq]at hs;rw[<-hi,<-hs.1]
    exact vQ ps xR c2 h q hq hk
   cases h
theorem tW:∀(qs:List It),(∀q∈qs,q.1=1->q.2.1.length=1/\q.2.2=0)->aM qs=qs
 | [],_=>rfl
 | q :: qs,h=>by
  rw[px,tW qs λx hx=>h x (by simp[hx])]
  split
  ·rename_i h1
   obtain⟨h2,h3⟩:=h q (by simp) h1;obtain⟨k,t,i⟩:=q;simp only at h1 h2 h3 |-;obtain⟨c,rfl⟩:=List.length_eq_one_iff.1 h2;subst h1 h3;rfl
  rfl
theorem Gp.ah{E:List UInt8->El}{G:Int->List UInt8->Prop}{raw:List UInt8}{R:gr}{ps:List (List UInt8 × It)}{tl:List UInt8}{c:Nat}(h:Gp E G raw R ps tl c):aM R.1=fE ps/\aA R.1=ps.length/\Nm R.1:=by
 have h1:aM R.1=fE ps:=by
  rw[h.items,tU];refine(tW (fE ps) λq hq h1=>?_:aM []++aM (fE ps)=fE ps);obtain⟨p,hp,rfl⟩:=List.mem_map.1 hq;exact⟨h.one p hp h1,vQ _ _ _ h.ok _ hq (by simp[aQ,h1])⟩
 refine⟨h1,?_,by rw[h.items];exact yU _ _ nQ⟩;rw[<-ga,h1];simp[fE]
theorem Ih{E:List UInt8->El}{G:Int->List UInt8->Prop}{fmt:Int}{raw:List UInt8}{R:gr}{ps:List (List UInt8 × It)}{tl:List UInt8}{c:Nat}(h:Gp E G raw R ps tl c){rs:List (Int × Int)}{ts:List (List It)}(gh:dd (aA R.1) 0 rs=true)(hl:rs.length=ts.length)(hen:∀t∈ts,bw fmt t=((aM t).flatMap (aK fmt),0))(hpc:∀t∈ts,∀p∈aM t,oJ E (aK fmt p) p)
  {op:List It} {c':Nat} (hok:fy (aM (cd R.1 rs ts)) [] 0=some (op,c')) (GU:(cd R.1 rs ts).length<=512) (xl:aA (cd R.1 rs ts)<=1024) :
  ∃s a,lZ (bw fmt) raw R.2.1 0 [] rs ts=.ok (s,a)/\s++raw.drop a=a8 (cG (fI fmt) ps 0 rs ts)++tl/\fE (cG (fI fmt) ps 0 rs ts)=aM (cd R.1 rs ts)/\(∀p∈cG (fI fmt) ps 0 rs ts,p∈ps\/∃t∈ts,p∈fI fmt t)/\∃z d cuts,eK E (s++raw.drop a) 0 0 [] [] [] 0=jH z d (cd R.1 rs ts) cuts op:=by
 obtain⟨hi,hll,_⟩:=h.ah;rw[hll]at gh;obtain⟨s,a,g1,g2⟩:=Fc (fmt:=fmt) h.flat h.cuts rs ts 0 [] gh (Nat.zero_le _) hl hen;rw[E8]at g1;rw[List.nil_append]at g2
 have hM:fE (cG (fI fmt) ps 0 rs ts)=aM (cd R.1 rs ts):=by
  rw[Db,FG,vW,hi,Db];congr 1
  funext t;exact OD fmt t
 have hF:(fE (cG (fI fmt) ps 0 rs ts)).foldl aL []=cd R.1 rs ts:=by rw[hM];exact AT (oB _ _ _) (rk (oB _ _ _))
 have hlen:(cG (fI fmt) ps 0 rs ts).length=aA (cd R.1 rs ts):=by rw[<-ga,<-hM];simp[fE]
 have hmm:∀p∈cG (fI fmt) ps 0 rs ts,p∈ps\/∃t∈ts,p∈fI fmt t:=λp hp=>FH rs ts 0 hp
 have hd:=oR (E:=E) (cG (fI fmt) ps 0 rs ts) tl 0 0 [] [] [] 0 (λp hp=>by
  rcases hmm p hp with hp|⟨t,ht,hp⟩
  ·exact h.piece p hp
  obtain⟨q,hq,rfl⟩:=List.mem_map.1 hp
  exact hpc t ht q hq) (by rw[hM];exact hok) (by rw[hF];exact GU) (by simp;omega)
 rw[hF,h.tail]at hd;exact⟨s,a,g1,g2,hM,hmm,_,_,_,by rw[g2];exact hd⟩
theorem xU{g:List It}{op:List It}{c:Nat}(hn:Nm g)(h:fy (aM g) [] 0=some (op,c)):k7 g=g:=by
 unfold k7;rw[(MD h).2];exact hn
theorem pv:∀(ps op:List It) (c:Nat),(∀p∈ps,aQ p.1=false->p.2.2=0)->fy ps op c=fy (ps.filter λx=>aQ x.1) op c
 | [],op,c,_=>rfl
 | p :: ps,op,c,h=>by
  have hr:=λq hq=>h q (List.mem_cons_of_mem _ hq)
  cases hk:aQ p.1
  ·rw[List.filter_cons_of_neg (by simp[hk]),fy];have hs:stepT op c p.1 p.2.1=some (0,op,c):=by
    have hk2:=hk;simp only[aQ,decide_eq_false_iff_not,not_or]at hk2;unfold stepT;rw[if_neg hk2.2.1,if_neg hk2.1,if_neg hk2.2.2]
   rw[hs];simp only;rw[if_pos (h p (by simp) hk).symm];exact pv ps op c hr
  rw[List.filter_cons_of_pos (by simp[hk]),fy,fy];cases hs:stepT op c p.1 p.2.1 with
  | none=>rfl
  | some y=>
   obtain⟨i,xR,c2⟩:=y;simp only
   split
   ·exact pv ps xR c2 hr
   rfl
def mC(f:List It):List It:=f.filter λx=>aQ x.1
def bY(f:List It):List It:=f.filter λx=>decide (x.1≠1)
theorem jh(f:List It):mC (bY f)=mC f:=by
 unfold mC bY;rw[List.filter_filter];refine List.filter_congr λx _=>?_
 by_cases h:x.1=1
 ·simp[aQ,h]
 simp[h]
theorem eT:∀f:List It,bY (aM f)=bY f
 | []=>rfl
 | x :: f=>by
  have e:bY (aM (x :: f))=bY (if x.1=1 then x.2.1.map (λc=>((1:Int),[c],(0:Int)))else[x])++bY (aM f):=by rw[px];unfold bY;rw[List.filter_append]
  rw[e,eT f]
  split
  ·rename_i h
   have e1:bY (x.2.1.map (λc=>((1:Int),[c],(0:Int))))=[]:=by
    unfold bY;rw[List.filter_eq_nil_iff];intro y hy;obtain⟨c,_,rfl⟩:=List.mem_map.1 hy;simp
   rw[e1];unfold bY;rw[List.filter_cons_of_neg (by simp[h])];rfl
  rename_i h
  unfold bY;rw[List.filter_cons_of_pos (by simp[h]),List.filter_cons_of_pos (by simp[h])];rfl
theorem D8(f:List It):mC (aM f)=mC f:=by rw[<-jh,eT,jh]
def Fits(f:List It):List (Int × Int)->List (List It)->Prop
 | r :: rs,t :: ts=>bY t=bY (aY r.1.toNat r.2.toNat 0 f)/\Fits f rs ts
 | [],[]=>True
 | _,_=>False
theorem Fits.len{f:List It}:∀ {rs:List (Int × Int)} {ts:List (List It)},Fits f rs ts->rs.length=ts.length
 | [],[],_=>rfl
 | r :: rs,t :: ts,h=>by simpa using Fits.len h.2
 | [],_ :: _,h=>h.elim
 | _ :: _,[],h=>h.elim
theorem km(a b:List It):bY (a++b)=bY a++bY b:=by unfold bY;rw[List.filter_append]
theorem Dj(f:List It):∀(rs:List (Int × Int)) (ts:List (List It)) (a:Nat),Fits f rs ts->dd (aA f) a rs=true->bY (cG aM (aM f) a rs ts)=bY ((aM f).drop a)
 | [],[],a,_,_=>by simp[cG]
 | [],_ :: _,a,h,_=>h.elim
 | _ :: _,[],a,h,_=>h.elim
 | r :: rs,t :: ts,a,h,has=>by
  rw[dd]at has
  split at has
  ·cases has
  rename_i hn
  obtain⟨p,q⟩:=r;simp only at hn has;obtain⟨p,rfl⟩:∃p':Nat,p=p':=⟨p.toNat,by omega⟩;obtain⟨q,rfl⟩:∃q':Nat,q=q':=⟨q.toNat,by omega⟩;obtain⟨h1,h2⟩:=h;simp only[Int.toNat_natCast]at h1;rw[cG,km,km,Dj f rs ts _ h2 (by simpa using has)];simp only[Int.toNat_natCast]
  have et:bY (aM t)=bY (((aM f).take q).drop p):=by
   rw[eT,h1,<-eT,lO,Nat.sub_zero,Nat.sub_zero]
  rw[et,<-km,<-km];congr 1
  have e1:(aM f).drop a=((aM f).take p).drop a++(aM f).drop p:=by
   conv=>lhs;rw[<-List.take_append_drop p (aM f)]
   rw[List.drop_append_of_le_length (by rw[List.length_take,ga];omega)]
  have e2:(aM f).drop p=((aM f).take q).drop p++(aM f).drop q:=by
   conv=>lhs;rw[<-List.take_append_drop q (aM f)]
   rw[List.drop_append_of_le_length (by rw[List.length_take,ga];omega)]
  rw[e1,e2]
theorem AZ{f:List It}{rs:List (Int × Int)}{ts:List (List It)}(h:Fits f rs ts)(has:dd (aA f) 0 rs=true):bY (cd f rs ts)=bY f:=by
 rw[<-eT,vW,Dj f rs ts 0 h has,List.drop_zero,eT]
theorem zg{f:List It}(h:∀x∈bY f,aQ x.1=false->x.2.2=0):∀p∈aM f,aQ p.1=false->p.2.2=0:=by
 intro p hp hk
 by_cases h1:p.1=1
 ·unfold aM at hp;obtain⟨x,hx,hp⟩:=List.mem_flatMap.1 hp
  split at hp
  ·obtain⟨c,_,rfl⟩:=List.mem_map.1 hp;rfl
  rename_i h2
  simp at hp;subst hp;exact absurd h1 h2
 refine h p ?_ hk;rw[<-eT];exact List.mem_filter.2 ⟨hp,by simpa using h1⟩
theorem Ph{f:List It}{rs:List (Int × Int)}{ts:List (List It)}{op:List It}{c:Nat}(h:Fits f rs ts)(has:dd (aA f) 0 rs=true)(hz:∀x∈bY f,aQ x.1=false->x.2.2=0)(hok:fy (aM f) [] 0=some (op,c)):fy (aM (cd f rs ts)) [] 0=some (op,c):=by
 have e1:=AZ h has;rw[pv _ _ _ (zg (by rw[e1];exact hz))];rw[pv _ _ _ (zg hz)]at hok;have e2:∀g:List It,(aM g).filter (λx=>aQ x.1)=mC (bY g):=λg=>by rw[jh,<-D8];rfl
 rw[e2,e1,<-e2];exact hok
end Go.Proofs.YthoemdibbldndaaGreatDoor.St
namespace Go.Proofs.YthoemdibbldndaaGreatDoor.St
theorem ko(f:List It):eX f ↔ eX (mC f):=by
 unfold eX mC;rw[List.pairwise_filter];constructor
 ·intro h;exact h.imp fun {a b} h _ _=>h
 intro h;refine h.imp fun {a b} h ht=>?_
 cases ha:aQ a.1
 ·exact Cn ha
 exact h ha ht ht
theorem Iu(a b:Nat)(f:List It):(bY (aY a b 0 f)).Sublist (bY f):=by
 rw[<-eT,lO,<-eT f];exact((List.drop_sublist _ _).trans (List.take_sublist _ _)).filter _
def GI(fmt:Int)(x:It):Prop:=(x.1=5/\aE x.2.1=true/\x.2.2=0)\/(fmt=1/\(((x.1=2\/x.1=4)/\aN x.2.1=true/\bC (nameOf x.2.1)=false/\1<=x.2.2/\x.2.2<=999)\/(x.1=3/\aE x.2.1=true/\bC x.2.1=false/\1<=x.2.2/\x.2.2<=999)))
structure jk (fmt:Int) (t:List It):Prop where
 nm:Nm t
 items:∀x∈bY t,GI fmt x
 bE:eX t
theorem Di{t:List It}{x:It}(hx:x∈t):x.1=1\/x∈bY t:=by
 by_cases h:x.1=1
 ·exact .inl h
 exact .inr (List.mem_filter.2 ⟨hx,by simpa using h⟩)
theorem jk.NQ{fmt:Int}{t:List It}(h:jk fmt t):∀x∈t,ob x:=λx hx=>by
 rcases Di hx with h1|h1
 ·exact .inl ⟨h1,rk h.nm x hx h1⟩
 rcases h.items x h1 with g|⟨_,g|g⟩
 ·exact .inr (.inl g)
 ·exact .inr (.inr (.inl g))
 exact .inr (.inr (.inr g))
theorem jk.R4{fmt:Int}{t:List It}(h:jk fmt t)(h1:fmt≠1):∀x∈t,Lm x:=λx hx=>by
 rcases Di hx with h2|h2
 ·exact⟨rk h.nm x hx h2,.inl h2⟩
 rcases h.items x h2 with⟨g1,g2,g3⟩|⟨g,_⟩
 ·exact⟨g3,.inr ⟨g1,g2⟩⟩
 exact absurd g h1
theorem jk.enc{fmt:Int}{t:List It}(h:jk fmt t)(h1:t.length<=512)(h2:aA t<=1024):bw fmt t=((aM t).flatMap (aK fmt),0):=by
 rw[<-OB]
 by_cases hf:fmt=1
 ·subst hf;exact OA (xP h.nm) h.NQ h.bE h1 h2
 exact QB fmt (xP h.nm) (h.R4 hf) h1 h2
theorem jk.H7{fmt:Int}{t:List It}(h:jk fmt t):∀p∈aM t,tc p/\(fmt≠1->oK p):=by
 intro p hp;refine⟨Mv h.NQ p hp,λhf=>?_⟩;unfold aM at hp;obtain⟨x,hx,hp⟩:=List.mem_flatMap.1 hp;obtain⟨h0,g⟩:=h.R4 hf x hx
 split at hp
 ·obtain⟨c,_,rfl⟩:=List.mem_map.1 hp;exact .inl ⟨c,rfl⟩
 rename_i h1
 simp at hp;subst hp;rcases g with g|⟨g1,g2⟩
 ·exact absurd g h1
 obtain⟨k,u,i⟩:=p;simp only at h0 g1 g2;subst h0 g1;exact .inr ⟨u,rfl,g2⟩
theorem L4{fmt:Int}{f t:List It}{a b:Nat}(h:jk fmt f)(hn:Nm t)(ht:bY t=bY (aY a b 0 f)):jk fmt t:=by
 have hs:(bY t).Sublist (bY f):=by rw[ht];exact Iu a b f
 refine⟨hn,λx hx=>h.items x (hs.subset hx),?_⟩;rw[ko,<-jh];have:=(ko f).1 h.bE
 rw[<-jh]at this;exact List.Pairwise.sublist (hs.filter _) this
theorem yB:∀p:It,oK p->j2 b7 (aK 2 p) p:=by
 rintro p (⟨c,rfl⟩|⟨t,rfl,ht⟩)
 ·have e:aK 2 (1,[c],0)=bj 2 c:=by simp[aK]
  rw[e];exact⟨λh0=>by have:=(li 2 c).1;rw[h0]at this;simp at this,by simp,λrest=>MF c rest⟩
 have e:aK 2 (5,t,0)=123 :: (t++[125]):=by simp[aK]
 rw[e];exact⟨by simp,by simp,λrest=>DO ht rest⟩
theorem tv:∀p:It,oK p->j2 cm (aK 3 p) p:=by
 rintro p (⟨c,rfl⟩|⟨t,rfl,ht⟩)
 ·have e:aK 3 (1,[c],0)=bj 3 c:=by simp[aK]
  rw[e];refine⟨λh0=>by have:=(li 3 c).1;rw[h0]at this;simp at this,by simp,λrest=>?_⟩
  by_cases qT:c.toNat=34
  ·obtain rfl:=ik qT;rfl
  by_cases cV:c.toNat=123
  ·obtain rfl:=ik cV;rfl
  have e2:bj 3 c=[c]:=by unfold bj;simp[qT,cV]
  rw[e2]
  show cm (c :: rest)=_
  rw[cm,if_neg qT,if_neg cV];rfl
 have e:aK 3 (5,t,0)=123 :: (t++[125]):=by simp[aK]
 rw[e];refine⟨by simp,by simp,λrest=>?_⟩;have e2:123 :: (t++[125])++rest=123 :: (t++125 :: rest):=by simp
 obtain⟨c,r,hc,hc2⟩:=OW ht
 have hp:([123,123]:List UInt8).isPrefixOf (123 :: (t++125 :: rest))=false:=by
  rw[hc];simp only[List.cons_append,List.isPrefixOf]
  have:((123:UInt8)==c)=false:=by
   refine Bool.eq_false_iff.2 λe=>hc2 ?_
   rw[<-eq_of_beq e];rfl
  simp[this]
 rw[e2,cm,if_neg (by decide),if_pos (by decide),hp,Bh ht];simp
def EO(fmt:Int):List UInt8->El:=if fmt=1 then bV else if fmt=2 then b7 else cm
def BO(fmt:Int)(k:Int)(t:List UInt8):Prop:=k=1\/(k=5/\aE t=true)\/(fmt=1/\(((k=2\/k=4)/\aN t=true/\bC (nameOf t)=false)\/(k=3/\aE t=true/\bC t=false)))
end Go.Proofs.YthoemdibbldndaaGreatDoor.St
namespace Go.Proofs.YthoemdibbldndaaGreatDoor.St
theorem uM(p:UInt8->Bool):∀r:List UInt8,(r.takeWhile p).length<r.length->∃x r',r=r.takeWhile p++x :: r'/\p x=false
 | [],h=>by simp at h
 | c :: r,h=>by
  by_cases hc:p c=true
  ·rw[List.takeWhile_cons_of_pos hc]at h |-;obtain⟨x,r',h1,h2⟩:=uM p r (by simpa using h);exact⟨x,r',by rw[List.cons_append,<-h1],h2⟩
  exact⟨c,r,by rw[List.takeWhile_cons_of_neg hc];rfl,by simpa using hc⟩
theorem Ec(p:UInt8->Bool):∀(r:List UInt8),∀c∈r.takeWhile p,p c=true
 | c :: r,d,h=>by
  by_cases hc:p c=true
  ·rw[List.takeWhile_cons_of_pos hc]at h;rcases List.mem_cons.1 h with rfl|h
   ·exact hc
   exact Ec p r d h
  rw[List.takeWhile_cons_of_neg hc]at h;cases h
theorem uf{c:UInt8}{r:List UInt8}{x:List UInt8 × Nat}(hc:c.toNat=123)(h:cM (c :: r)=some x):(c :: r).take x.2=123 :: (x.1++[125])/\aE x.1=true/\x.2=x.1.length+2:=by
 unfold cM at h;simp only[List.drop_succ_cons,List.drop_zero]at h
 split at h
 ·rename_i hq
  rw[Bool.and_eq_true,decide_eq_true_eq]at hq;simp only[Option.some.injEq]at h;subst h;obtain⟨y,r',h1,h2⟩:=uM (λc=>decide (c.toNat≠125)) r (by simpa using hq.1);have hy:=ik (show y.toNat=125 by simpa using h2);have hc2:=ik hc;refine⟨?_,hq.2,rfl⟩;generalize r.takeWhile (λc=>decide (c.toNat≠125))=u at h1;subst hy hc2;rw[h1];have e:UInt8.ofNat 123 :: (u++UInt8.ofNat 125 :: r')=(UInt8.ofNat 123 :: (u++[UInt8.ofNat 125]))++r':=by simp
  rw[e];exact List.take_left' (by simp)
 cases h
theorem MW{c:UInt8}{r t:List UInt8}{k:Int}{n:Nat}(hc:c.toNat=60)(h:fW (c :: r)=some (k,t,n)):∃u,(c :: r).take n=[60]++u++[62]/\(∀d∈u,d.toNat≠62)/\eU u=some (k,t)/\n=u.length+2:=by
 unfold fW at h
 split at h
 ·rename_i hl
  cases hq:eU (di (c :: r))with
  | none=>rw[hq]at h;cases h
  | some x=>
   obtain⟨k',t'⟩:=x;rw[hq]at h;simp only[Option.map_some,Option.some.injEq,Prod.mk.injEq]at h;obtain⟨rfl,rfl,rfl⟩:=h;refine⟨di (c :: r),?_,λd hd=>?_,hq,rfl⟩
   ·have hin:di (c :: r)=r.takeWhile (λc=>decide (c.toNat≠62)):=rfl;rw[hin]at hl |-;obtain⟨y,r',h1,h2⟩:=uM (λc=>decide (c.toNat≠62)) r (by simpa using hl);have hy:=ik (show y.toNat=62 by simpa using h2);have hc2:=ik hc;generalize r.takeWhile (λc=>decide (c.toNat≠62))=u at h1;subst hy hc2;rw[h1];have e:UInt8.ofNat 60 :: (u++UInt8.ofNat 62 :: r')=([60]++u++[62])++r':=by simp
    rw[e];exact List.take_left' (by simp)
   have:=Ec _ _ d hd
   simpa using this
 cases h
theorem DA{m l:List UInt8}(h:m.isPrefixOf l=true):l.take m.length=m:=(List.prefix_iff_eq_take.1 (List.isPrefixOf_iff_prefix.1 h)).symm
theorem KU{u t:List UInt8}{k:Int}(h:eU u=some (k,t))(hb:bC (nameOf t)=false):BO 1 k t:=by
 unfold eU at h
 split at h
 ·split at h
  ·rename_i hn
   simp only[Option.some.injEq,Prod.mk.injEq]at h;obtain⟨rfl,rfl⟩:=h;rw[qD hn]at hb;exact .inr (.inr ⟨rfl,.inr ⟨rfl,hn,hb⟩⟩)
  cases h
 split at h
 ·split at h
  ·rename_i hn
   simp only[Option.some.injEq,Prod.mk.injEq]at h;obtain⟨rfl,rfl⟩:=h;exact .inr (.inr ⟨rfl,.inl ⟨.inr rfl,hn,hb⟩⟩)
  cases h
 split at h
 ·rename_i hn
  simp only[Option.some.injEq,Prod.mk.injEq]at h;obtain⟨rfl,rfl⟩:=h;exact .inr (.inr ⟨rfl,.inl ⟨.inl rfl,hn,hb⟩⟩)
 cases h
theorem Mi:Bz bV (BO 1):=by
 refine⟨FE,λl k t n h hk=>?_,λl t n h=>?_⟩
 ·match l,h with
  | c :: r,h=>
   by_cases lI:c.toNat=60
   ·rw[ow lI]at h;unfold tS at h;cases hq:fW (c :: r)with
    | none=>rw[hq]at h;cases h
    | some x=>
     obtain⟨k',t',n'⟩:=x;rw[hq]at h;simp only at h
     split at h
     ·cases h
     rename_i hb
     simp only[Option.some.injEq,Prod.mk.injEq]at h;obtain⟨rfl,rfl,rfl⟩:=h;obtain⟨u,g1,g2,g3,g4⟩:=MW lI hq;have hb':bC (nameOf t')=false:=by simpa using hb
     refine⟨KU g3 hb',λrest=>?_⟩;rw[g1,xF g2 g3 hb',g4]
   by_cases pU:c.toNat=38
   ·rw[iU pU]at h;unfold sh at h
    repeat' split at h
    all_goals first|(simp only[reduceCtorEq]at h;done)|skip
    all_goals
     rename_i hp
     simp only[Option.some.injEq,Prod.mk.injEq]at h;obtain⟨rfl,rfl,rfl⟩:=h;have:=DA hp
     simp only[List.length_cons,List.length_nil,Nat.zero_add,Nat.reduceAdd]at this;refine⟨.inl rfl,λrest=>?_⟩;rw[this]
     show bV (38 :: _)=_
     rw[iU (by rfl)];rfl
   by_cases cV:c.toNat=123
   ·rw[lu cV]at h;cases hq:cM (c :: r)with
    | none=>rw[hq]at h;cases h
    | some x=>
     rw[hq]at h;simp only[Option.map_some,Option.some.injEq,Prod.mk.injEq]at h;obtain⟨rfl,rfl,rfl⟩:=h;obtain⟨g1,g2,g3⟩:=uf cV hq;refine⟨.inr (.inl ⟨rfl,g2⟩),λrest=>?_⟩;rw[g1]
     show bV (123 :: _)=_
     have:=x8 (rest:=rest) g2
     rw[lu (by rfl)];have e:([123]++x.1++[125]++rest:List UInt8)=123 :: (x.1++[125]++rest):=by simp
     rw[e]at this;have this:cM (123 :: (x.1++[125]).append rest)=_:=this;rw[this,g3];rfl
   rw[kj lI pU cV]at h;simp only[Option.some.injEq,Prod.mk.injEq]at h;obtain⟨rfl,rfl,rfl⟩:=h;exact⟨.inl rfl,λrest=>kj lI pU cV⟩
 have:=(pq h).1
 omega
theorem ua:qm b7:=λl k t n h=>by
 obtain⟨_,h1,h2,h3⟩:=iZ h;refine⟨h1,h2,h3,?_⟩;rintro rfl
 match l,h with
 | c :: r,h=>
  by_cases h10:c.toNat=10
  ·rw[rp h10]at h;cases h
  by_cases hU:c.toNat=92
  ·match r,h with
   | [],h=>rw[oC hU]at h;cases h
   | d :: r',h=>
    by_cases hd:d.toNat=10
    ·rw[ku hU hd]at h;simp at h
    rw[nl hU hd]at h;cases he:mV d with
    | none=>rw[he]at h;cases h
    | some e=>
     rw[he]at h;simp only[Option.map_some,Option.some.injEq,Prod.mk.injEq]at h;obtain⟨_,rfl,_⟩:=h;rfl
  by_cases cV:c.toNat=123
  ·rw[nk cV]at h;cases hq:cM (c :: r)with
   | none=>rw[hq]at h;cases h
   | some x=>rw[hq]at h;simp at h
  rw[kv h10 hU cV]at h;simp only[Option.some.injEq,Prod.mk.injEq]at h;obtain⟨_,rfl,_⟩:=h;rfl
theorem Pj:Bz b7 (BO 2):=by
 refine⟨ua,λl k t n h hk=>?_,λl t n h c r r' hd=>?_⟩
 ·match l,h with
  | c :: r,h=>
   by_cases h10:c.toNat=10
   ·rw[rp h10]at h;cases h
   by_cases hU:c.toNat=92
   ·match r,h with
    | [],h=>rw[oC hU]at h;cases h
    | d :: r',h=>
     by_cases hd:d.toNat=10
     ·rw[ku hU hd]at h;simp only[Option.some.injEq,Prod.mk.injEq]at h;exact absurd h.1.symm hk
     rw[nl hU hd]at h;cases he:mV d with
     | none=>rw[he]at h;cases h
     | some e=>
      rw[he]at h;simp only[Option.map_some,Option.some.injEq,Prod.mk.injEq]at h;obtain⟨rfl,rfl,rfl⟩:=h;refine⟨.inl rfl,λrest=>?_⟩
      show b7 (c :: d :: rest)=_
      rw[nl hU hd,he];rfl
   by_cases cV:c.toNat=123
   ·rw[nk cV]at h;cases hq:cM (c :: r)with
    | none=>rw[hq]at h;cases h
    | some x=>
     rw[hq]at h;simp only[Option.map_some,Option.some.injEq,Prod.mk.injEq]at h;obtain⟨rfl,rfl,rfl⟩:=h;obtain⟨g1,g2,g3⟩:=uf cV hq;refine⟨.inr (.inl ⟨rfl,g2⟩),λrest=>?_⟩;rw[g1,DO g2,g3];simp
   rw[kv h10 hU cV]at h;simp only[Option.some.injEq,Prod.mk.injEq]at h;obtain⟨rfl,rfl,rfl⟩:=h;exact⟨.inl rfl,λrest=>kv h10 hU cV⟩
 match l,h with
 | c1 :: r1,h=>
  by_cases h10:c1.toNat=10
  ·rw[rp h10]at h;cases h
  by_cases hU:c1.toNat=92
  ·match r1,h with
   | [],h=>rw[oC hU]at h;cases h
   | d :: r2,h=>
    by_cases hd2:d.toNat=10
    ·rw[ku hU hd2]at h;simp only[Option.some.injEq,Prod.mk.injEq]at h;obtain⟨_,rfl,rfl⟩:=h
     have hdr:r2.drop (dS r2)=c :: r:=by
      rw[Nat.add_comm]at hd;simpa using hd
     have hlt:(r2.takeWhile fR).length<r2.length:=by
      have:=congrArg List.length hdr
      simp[dS]at this;omega
     obtain⟨y,r3,g1,g2⟩:=uM fR r2 hlt;have n4:dS r2=(r2.takeWhile fR).length:=rfl;have T8:=Ec fR r2;generalize r2.takeWhile fR=u at g1 n4 hlt T8
     have hy:y=c:=by
      rw[n4,g1,List.drop_left]at hdr;exact(List.cons.inj hdr).1
     subst hy
     have ht:(c1 :: d :: r2).take (2+dS r2)=c1 :: d :: u:=by
      rw[Nat.add_comm,List.take_succ_cons,List.take_succ_cons,n4];congr 2;rw[g1,List.take_left]
     rw[ht]
     show b7 (c1 :: d :: (u++y :: r'))=_
     rw[ku hU hd2,n4]
     have:dS (u++y :: r')=u.length:=by
      unfold dS;rw[List.takeWhile_append_of_pos T8,List.takeWhile_cons_of_neg (by simp[g2]),List.append_nil]
     rw[this]
    rw[nl hU hd2]at h;cases he:mV d with
    | none=>rw[he]at h;cases h
    | some e=>rw[he]at h;simp at h
  by_cases cV:c1.toNat=123
  ·rw[nk cV]at h;cases hq:cM (c1 :: r1)with
   | none=>rw[hq]at h;cases h
   | some x=>rw[hq]at h;simp at h
  rw[kv h10 hU cV]at h;simp at h
theorem nz{c:UInt8}{r:List UInt8}{k:Int}{t:List UInt8}{n:Nat}(h:cm (c :: r)=some (k,t,n)):(k=1/\t.length=1/\1<=n/\n<=(c :: r).length/\∀rest,cm ((c :: r).take n++rest)=some (k,t,n))\/(k=5/\aE t=true/\n=t.length+2/\n<=(c :: r).length/\∀rest,cm ((c :: r).take n++rest)=some (k,t,n)):=by
 rw[cm]at h
 split at h
 ·rename_i qT
  split at h
  ·rename_i hp
   have hl:=(List.isPrefixOf_iff_prefix.1 hp).length_le;have ht:=DA hp;simp only[Option.some.injEq,Prod.mk.injEq]at h;obtain⟨rfl,rfl,rfl⟩:=h;refine .inl ⟨rfl,rfl,by omega,by simpa using hl,λrest=>?_⟩;simp only[List.length_cons,List.length_nil,Nat.zero_add,Nat.reduceAdd]at ht;rw[ht];rfl
  cases h
 split at h
 ·rename_i qT cV
  split at h
  ·rename_i hp
   have hl:=(List.isPrefixOf_iff_prefix.1 hp).length_le;have ht:=DA hp;simp only[Option.some.injEq,Prod.mk.injEq]at h;obtain⟨rfl,rfl,rfl⟩:=h;refine .inl ⟨rfl,rfl,by omega,by simpa using hl,λrest=>?_⟩;simp only[List.length_cons,List.length_nil,Nat.zero_add,Nat.reduceAdd]at ht;rw[ht];rfl
  cases hq:cM (c :: r)with
  | none=>rw[hq]at h;cases h
  | some x=>
   rw[hq]at h;simp only[Option.map_some,Option.some.injEq,Prod.mk.injEq]at h;obtain⟨rfl,rfl,rfl⟩:=h;obtain⟨g1,g2,g3⟩:=uf cV hq;refine .inr ⟨rfl,g2,g3,(D4 hq).2.1,λrest=>?_⟩;have hp2:=(tv (5,x.1,0) (.inr ⟨x.1,rfl,g2⟩)).2.2 rest;have e:aK 3 (5,x.1,0)=123 :: (x.1++[125]):=by simp[aK]
   rw[e]at hp2;rw[g1,hp2,g3];simp
 rename_i qT cV
 simp only[Option.some.injEq,Prod.mk.injEq]at h;obtain⟨rfl,rfl,rfl⟩:=h;refine .inl ⟨rfl,rfl,by omega,by simp,λrest=>?_⟩
 show cm (c :: rest)=_
 rw[cm,if_neg qT,if_neg cV]
theorem KJ:Bz cm (BO 3):=by
 refine⟨λl k t n h=>?_,λl k t n h hk=>?_,λl t n h=>?_⟩
 ·match l,h with
  | c :: r,h=>
   rcases nz h with⟨rfl,h2,h3,h4,_⟩|⟨rfl,h2,h3,h4,_⟩
   ·exact⟨h3,h4,by omega,λ_=>h2⟩
   exact⟨by omega,h4,by omega,λe=>absurd e (by decide)⟩
 ·match l,h with
  | c :: r,h=>
   rcases nz h with⟨rfl,h2,h3,h4,h5⟩|⟨rfl,h2,h3,h4,h5⟩
   ·exact⟨.inl rfl,h5⟩
   exact⟨.inr (.inl ⟨rfl,h2⟩),h5⟩
 match l,h with
 | c :: r,h=>
  rcases nz h with⟨h1,_⟩|⟨h1,_⟩
  ·exact absurd h1 (by decide)
  exact absurd h1 (by decide)
theorem yC{fmt:Int}(h:fmt=1\/fmt=2\/fmt=3):Bz (EO fmt) (BO fmt):=by
 rcases h with rfl|rfl|rfl
 ·exact Mi
 ·exact Pj
 exact KJ
theorem jk.piece{fmt:Int}(hk:fmt=1\/fmt=2\/fmt=3){t:List It}(h:jk fmt t):∀p∈aM t,oJ (EO fmt) (aK fmt p) p:=by
 intro p hp;obtain⟨h1,h2⟩:=h.H7 p hp;have hE:=(yC hk).ok.QA;rcases hk with rfl|rfl|rfl
 ·exact(xJ h1).Bm hE
 ·exact(yB p (h2 (by decide))).Bm hE
 exact(tv p (h2 (by decide))).Bm hE
end Go.Proofs.YthoemdibbldndaaGreatDoor.St
