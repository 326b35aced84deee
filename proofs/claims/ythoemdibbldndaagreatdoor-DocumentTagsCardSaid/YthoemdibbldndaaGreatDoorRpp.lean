/- Plain: a raw content that is read without an error is pieces, whatever stands behind them. -/
import Derived.Test.YthoemdibbldndaaGreatDoorRsB
import Derived.Test.YthoemdibbldndaaGreatDoorDcD
set_option linter.all false
namespace Go.Proofs.YthoemdibbldndaaGreatDoor.St
def pX(E:List UInt8->El)(b:List UInt8)(x:It):Prop:=b≠[]/\∀(rest:List UInt8) (a d:Nat) (f:List It) (cuts:List Nat) (op:List It) (c:Nat) (i:Int) (b7:List It) (c':Nat),stepT op c x.1 x.2.1=some (i,b7,c')->¬ES f (x.1,x.2.1,i) cuts ->
 eD E (b++rest) a d f cuts op c=eD E rest (a+b.length) (a+b.length) (aP f (x.1,x.2.1,i)) (cuts++[d]) b7 c'
theorem jE.I4{E:List UInt8->El}(hE:th E){b:List UInt8}{x:It}(h:jE E b x):pX E b x:=by
 obtain⟨hb,hk,h1⟩:=h;refine⟨hb,λrest a d f cuts op c i b7 c' hs hf=>?_⟩;rw[EI hE a d f cuts (by simp[hb]) (h1 rest) hk hs hf,List.drop_left]
theorem n9{E:List UInt8->El}:∀(ps:List (List UInt8 × It)) (rest:List UInt8) (a d:Nat) (f:List It) (cuts:List Nat) (op:List It) (c:Nat) {b7:List It} {c':Nat},(∀p∈ps,pX E p.1 p.2)->dY (eV ps) op c=some (b7,c')->((eV ps).foldl aP f).length<=512->cuts.length+ps.length<=1024 ->
  eD E (bt ps++rest) a d f cuts op c=eD E rest (a+(bt ps).length) (if ps=[]then d else a+(bt ps).length) ((eV ps).foldl aP f) (cuts++uG a d ps) b7 c'
 | [],rest,a,d,f,cuts,op,c,b7,c',_,ho,_,_=>by
  simp only[eV,List.map_nil,dY,Option.some.injEq,Prod.mk.injEq]at ho;obtain⟨rfl,rfl⟩:=ho;simp[bt,eV,uG]
 | p :: ps,rest,a,d,f,cuts,op,c,b7,c',hp,ho,hl,hc=>by
  obtain⟨hb,h1⟩:=hp p (by simp);have hl':((eV ps).foldl aP (aP f p.2)).length<=512:=hl;have e:bt (p :: ps)++rest=p.1++(bt ps++rest):=by simp[bt]
  have ho':dY (p.2 :: eV ps) op c=some (b7,c'):=ho;rw[dY]at ho';cases hs:stepT op c p.2.1 p.2.2.1 with
  | none=>rw[hs]at ho';cases ho'
  | some y=>
   obtain⟨i,pn,c2⟩:=y;rw[hs]at ho';simp only at ho'
   split at ho'
   ·rename_i hi
    subst hi;have hx:((p.2.1,p.2.2.1,p.2.2.2):It)=p.2:=rfl
    have hfn:¬ES f (p.2.1,p.2.2.1,p.2.2.2) cuts:=by
     rw[hx];rintro (h|h)
     ·have:=zv (eV ps) (aP f p.2);omega
     simp at hc;omega
    rw[e,h1 _ a d f cuts op c _ _ _ hs hfn,hx];rw[n9 ps rest _ _ _ _ _ _ (λq hq=>hp q (by simp[hq])) ho' hl' (by simp at hc |-;omega)];have e2:a+p.1.length+(bt ps).length=a+(bt (p :: ps)).length:=by simp[bt];omega
    have e3:(if ps=[]then a+p.1.length else a+p.1.length+(bt ps).length)=a+(bt (p :: ps)).length:=by
     split
     ·rename_i h;subst h;simp[bt]
     exact e2
    rw[e2];rw[e2]at e3;rw[e3];simp[eV,uG]
   cases ho'
structure zC (E:List UInt8->El) (G:Int->List UInt8->Prop):Prop where
 ok:pB E
 elem:∀l k t n,E l=some (k,t,n)->k≠0->G k t/\∀rest,E (l.take n++rest)=some (k,t,n)
 skip:∀l t n,E l=some (0,t,n)->∀c r r',l.drop n=c :: r->E (l.take n++c :: r')=some (0,t,n)
theorem pB.Rx{E:List UInt8->El}(h:pB E):th E:=λl k t n e=>let ⟨h1,h2,_⟩:=h l k t n e;⟨h1,h2⟩
theorem EH{E:List UInt8->El}(hE:th E){l t:List UInt8}{n:Nat}(a d:Nat)(f:List It)(cuts:List Nat)(op:List It)(c:Nat)(h0:l≠[])(h:E l=some (0,t,n)):eD E l a d f cuts op c=eD E (l.drop n) (a+n) d f cuts op c:=by
 unfold eD;obtain⟨m,hm⟩:=D6 h0;have hn:=hE _ _ _ _ h;rw[hm,lc _ _ _ _ _ h0 h];exact oZ hE _ _ _ _ _ _ _ _ _ (by simp;omega) (by simp)
def Lq(E:List UInt8->El)(tl:List UInt8):Prop:=∀(a d:Nat) (f:List It) (cuts:List Nat) (op:List It) (c:Nat),eD E tl a d f cuts op c=gD (a+tl.length) d f cuts op
theorem tail_nil(E:List UInt8->El):Lq E []:=λa d f cuts op c=>xU E a d f cuts op c
structure Er (E:List UInt8->El) (G:Int->List UInt8->Prop) (raw:List UInt8) (R:gg) (ps:List (List UInt8 × It)) (tl:List UInt8) (c:Nat):Prop where
 flat:raw=bt ps++tl
 tail:Lq E tl
 piece:∀p∈ps,pX E p.1 p.2
 good:∀p∈ps,G p.2.1 p.2.2.1
 one:∀p∈ps,p.2.1=1->p.2.2.1.length=1
 ok:dY (eV ps) [] 0=some ([],c)
 items:R.1=(eV ps).foldl aP []
 cuts:R.2.1=(List.range (ps.length+1)).map (cz ps)
 len:R.1.length<=512
 pos:ps.length<=1024
end Go.Proofs.YthoemdibbldndaaGreatDoor.St
namespace Go.Proofs.YthoemdibbldndaaGreatDoor.St
def fe{α:Type}(F:List It->List α)(l:List α):Nat->List (Int × Int)->List (List It)->List α
 | a,r :: rs,t :: ts=>(l.take r.1.toNat).drop a++(F t++fe F l r.2.toNat rs ts)
 | a,_,_=>l.drop a
theorem DG{α β:Type}(g:α->β)(F:List It->List α)(l:List α):∀(rs:List (Int × Int)) (ts:List (List It)) (a:Nat),(fe F l a rs ts).map g=fe (λt=>(F t).map g) (l.map g) a rs ts
 | [],_,a=>by simp[fe]
 | r :: rs,[],a=>by simp[fe]
 | r :: rs,t :: ts,a=>by
  rw[fe,fe,List.map_append,List.map_append,DG g F l rs ts,List.map_drop,List.map_take]
theorem DH{α:Type}{F:List It->List α}{l:List α}{x:α}:∀(rs:List (Int × Int)) (ts:List (List It)) (a:Nat),x∈fe F l a rs ts->x∈l\/∃t∈ts,x∈F t
 | [],_,a,h=>.inl (List.mem_of_mem_drop h)
 | r :: rs,[],a,h=>.inl (List.mem_of_mem_drop h)
 | r :: rs,t :: ts,a,h=>by
  rw[fe]at h;rcases List.mem_append.1 h with h|h
  ·exact .inl (List.mem_of_mem_take (List.mem_of_mem_drop h))
  rcases List.mem_append.1 h with h|h
  ·exact .inr ⟨t,by simp,h⟩
  rcases DH rs ts _ h with h|⟨u,hu,h⟩
  ·exact .inl h
  exact .inr ⟨u,by simp[hu],h⟩
theorem kV(a b:List It):aN (a++b)=aN a++aN b:=by simp[aN]
theorem Kq(f:List It)(x:It):aN (aP f x)=aN f++aN [x]:=by
 by_cases h:x.1=1
 ·have e:aP f x=aP f (1,x.2.1,0):=by unfold aP;simp[h]
  rw[e,yL];simp[aN,h]
 rw[fW h,kV]
theorem sK:∀(f g:List It),aN (f.foldl aP g)=aN g++aN f
 | [],g=>by simp[aN]
 | x :: f,g=>by
  rw[List.foldl_cons,sK f,Kq,List.append_assoc,<-kV];rfl
theorem sL(f:List It):aN (bH f)=aN f:=sK f []
theorem xf:∀(f g:List It),Nm g->Nm (f.foldl aP g)
 | [],_,h=>h
 | x :: f,_,h=>xf f _ (fy h x)
theorem MF(f:List It):Nm (bH f):=xf f [] oE
theorem BC:∀(f:List It) (p:Bool),rI p f->∀x∈f,x.1=1->x.2.2=0
 | y :: f,p,h,x,hx,h1=>by
  rcases List.mem_cons.1 hx with rfl|hx
  ·exact(h.1 h1).2.1
  exact BC f _ h.2 x hx h1
theorem mm{f:List It}(h:Nm f):∀x∈f,x.1=1->x.2.2=0:=BC f _ (BE h)
theorem yQ(f:List It):∀(rs:List (Int × Int)) (ts:List (List It)) (a:Nat) (out:List It),aN (ka f a out rs ts).1++(aN f).drop (ka f a out rs ts).2=aN out++fe aN (aN f) a rs ts
 | [],_,a,out=>by simp[ka,fe]
 | r :: rs,[],a,out=>by simp[ka,fe]
 | r :: rs,t :: ts,a,out=>by
  rw[ka,fe,yQ f rs ts,sL,kV,sL,kV,sN];simp[List.append_assoc]
theorem B0(f:List It)(rs:List (Int × Int))(ts:List (List It)):aN (fw f rs ts)=fe aN (aN f) 0 rs ts:=by
 have h:=yQ f rs ts 0 [];unfold fw;rw[sL,kV,sN];rw[show ay f-0=(aN f).length by rw[lm];omega,List.take_length];simpa[aN]using h
theorem xj(f:List It)(rs:List (Int × Int))(ts:List (List It)):Nm (fw f rs ts):=MF _
theorem Bo(ps:List (List UInt8 × It)):eV ps=ps.map (·.2):=rfl
def l3(fmt:Int)(t:List It):List (List UInt8 × It):=(aN t).map λp=>(aH fmt p,p)
theorem JE(fmt:Int)(t:List It):bt (l3 fmt t)=(aN t).flatMap (aH fmt):=by unfold bt l3;rw[List.flatMap_map]
theorem Mg(fmt:Int)(t:List It):(l3 fmt t).map (·.2)=aN t:=by
 unfold l3;rw[List.map_map]
 show(aN t).map (λp=>p)=_
 simp
theorem Dh{fmt:Int}{raw tl:List UInt8}{ps:List (List UInt8 × It)}{cuts:List Nat}(ov:raw=bt ps++tl)(hc:cuts=(List.range (ps.length+1)).map (cz ps)):∀(rs:List (Int × Int)) (ts:List (List It)) (a:Nat) (s:List UInt8),eI ps.length a rs=true->a<=ps.length->rs.length=ts.length->(∀t∈ts,bj fmt t=((aN t).flatMap (aH fmt),0)) ->
  ∃s' a',iW (bj fmt) raw cuts (cz ps a) s rs ts=.ok (s',a')/\s'++raw.drop a'=s++(bt (fe (l3 fmt) ps a rs ts)++tl)
 | [],ts,a,s,_,ha,_,_=>by
  refine⟨s,cz ps a,by rw[iW];intros;simp_all,?_⟩;have e:bt ps=bt (ps.take a)++bt (ps.drop a):=by rw[<-iB,List.take_append_drop]
  rw[fe,ov,e,List.append_assoc,show cz ps a=(bt (ps.take a)).length from rfl,List.drop_left]
  intros;simp_all
 | r :: rs,[],a,s,_,_,hl,_=>by simp at hl
 | r :: rs,t :: ts,a,s,h,ha,hl,ht=>by
  rw[eI]at h
  split at h
  ·cases h
  rename_i hn
  obtain⟨p,q⟩:=r;simp only at hn h;obtain⟨p,rfl⟩:∃p':Nat,p=p':=⟨p.toNat,by omega⟩;obtain⟨q,rfl⟩:∃q':Nat,q=q':=⟨q.toNat,by omega⟩
  have hg:∀j,j<=ps.length->cuts.getD j 0=cz ps j:=λj hj=>by
   rw[hc,List.getD_eq_getElem?_getD,List.getElem?_map,List.getElem?_range (by omega)];rfl
  have QN:=ht t (by simp)
  have htk:(raw.take (cz ps p)).drop (cz ps a)=bt ((ps.take p).drop a):=by
   rw[ov,List.take_append_of_le_length (PP ps (by omega))];exact JH ps (by omega)
  obtain⟨s',a',g1,g2⟩:=Dh ov hc rs ts q (s++(bt ((ps.take p).drop a)++(bj fmt t).1)) h (by omega) (by simpa using hl) λu hu=>ht u (by simp[hu])
  refine⟨s',a',?_,?_⟩
  ·rw[iW,if_neg (by rw[QN];simp)];simp only[Int.toNat_natCast];rw[hg p (by omega),hg q (by omega),htk];exact g1
  rw[g2,fe,iB,iB,JE,QN];simp[List.append_assoc]
theorem BJ:∀(ps op:List It) (c:Nat) {r:List It × Nat},dY ps op c=some r->∀p∈ps,aJ p.1=false->p.2.2=0
 | p :: ps,op,c,r,h,q,hq,hk=>by
  rw[dY]at h;cases hs:stepT op c p.1 p.2.1 with
  | none=>rw[hs]at h;cases h
  | some y=>
   obtain⟨i,pn,c2⟩:=y;rw[hs]at h;simp only at h
   split at h
   ·rename_i hi
    rcases List.mem_cons.1 hq with rfl|hq
    ·unfold stepT at hs;simp only[aJ,decide_eq_false_iff_not,not_or]at hk;rw[if_neg hk.2.1,if_neg hk.1,if_neg hk.2.2]at hs;simp only[Option.some.injEq,Prod.mk.injEq]at hs;rw[<-hi,<-hs.1]
    exact BJ ps pn c2 h q hq hk
   cases h
theorem sM:∀(qs:List It),(∀q∈qs,q.1=1->q.2.1.length=1/\q.2.2=0)->aN qs=qs
 | [],_=>rfl
 | q :: qs,h=>by
  rw[oG,sM qs λx hx=>h x (by simp[hx])]
  split
  ·rename_i h1
   obtain⟨h2,h3⟩:=h q (by simp) h1;obtain⟨k,t,i⟩:=q;simp only at h1 h2 h3 |-;obtain⟨c,rfl⟩:=List.length_eq_one_iff.1 h2;subst h1 h3;rfl
  rfl
theorem Er.ah{E:List UInt8->El}{G:Int->List UInt8->Prop}{raw:List UInt8}{R:gg}{ps:List (List UInt8 × It)}{tl:List UInt8}{c:Nat}(h:Er E G raw R ps tl c):aN R.1=eV ps/\ay R.1=ps.length/\Nm R.1:=by
 have h1:aN R.1=eV ps:=by
  rw[h.items,sK];refine(sM (eV ps) λq hq h1=>?_:aN []++aN (eV ps)=eV ps);obtain⟨p,hp,rfl⟩:=List.mem_map.1 hq;exact⟨h.one p hp h1,BJ _ _ _ h.ok _ hq (by simp[aJ,h1])⟩
 refine⟨h1,?_,by rw[h.items];exact xf _ _ oE⟩;rw[<-lm,h1];simp[eV]
theorem FI{E:List UInt8->El}{G:Int->List UInt8->Prop}{fmt:Int}{raw:List UInt8}{R:gg}{ps:List (List UInt8 × It)}{tl:List UInt8}{c:Nat}(h:Er E G raw R ps tl c){rs:List (Int × Int)}{ts:List (List It)}(ng:eI (ay R.1) 0 rs=true)(hl:rs.length=ts.length)(hen:∀t∈ts,bj fmt t=((aN t).flatMap (aH fmt),0))(hpc:∀t∈ts,∀p∈aN t,pX E (aH fmt p) p)
  {op:List It} {c':Nat} (hok:dY (aN (fw R.1 rs ts)) [] 0=some (op,c')) (RB:(fw R.1 rs ts).length<=512) (TO:ay (fw R.1 rs ts)<=1024) :
  ∃s a,iW (bj fmt) raw R.2.1 0 [] rs ts=.ok (s,a)/\s++raw.drop a=bt (fe (l3 fmt) ps 0 rs ts)++tl/\eV (fe (l3 fmt) ps 0 rs ts)=aN (fw R.1 rs ts)/\(∀p∈fe (l3 fmt) ps 0 rs ts,p∈ps\/∃t∈ts,p∈l3 fmt t)/\∃z d cuts,eD E (s++raw.drop a) 0 0 [] [] [] 0=gD z d (fw R.1 rs ts) cuts op:=by
 obtain⟨hi,hll,_⟩:=h.ah;rw[hll]at ng;obtain⟨s,a,g1,g2⟩:=Dh (fmt:=fmt) h.flat h.cuts rs ts 0 [] ng (Nat.zero_le _) hl hen;rw[Dd]at g1;rw[List.nil_append]at g2
 have hM:eV (fe (l3 fmt) ps 0 rs ts)=aN (fw R.1 rs ts):=by
  rw[Bo,DG,B0,hi,Bo];congr 1
  funext t;exact Mg fmt t
 have hF:(eV (fe (l3 fmt) ps 0 rs ts)).foldl aP []=fw R.1 rs ts:=by rw[hM];exact pr (xj _ _ _) (mm (xj _ _ _))
 have hlen:(fe (l3 fmt) ps 0 rs ts).length=ay (fw R.1 rs ts):=by rw[<-lm,<-hM];simp[eV]
 have hmm:∀p∈fe (l3 fmt) ps 0 rs ts,p∈ps\/∃t∈ts,p∈l3 fmt t:=λp hp=>DH rs ts 0 hp
 have hd:=n9 (E:=E) (fe (l3 fmt) ps 0 rs ts) tl 0 0 [] [] [] 0 (λp hp=>by
  rcases hmm p hp with hp|⟨t,ht,hp⟩
  ·exact h.piece p hp
  obtain⟨q,hq,rfl⟩:=List.mem_map.1 hp
  exact hpc t ht q hq) (by rw[hM];exact hok) (by rw[hF];exact RB) (by simp;omega)
 rw[hF,h.tail]at hd;exact⟨s,a,g1,g2,hM,hmm,_,_,_,by rw[g2];exact hd⟩
theorem uH:∀(ps op:List It) (c:Nat),(∀p∈ps,aJ p.1=false->p.2.2=0)->dY ps op c=dY (ps.filter λx=>aJ x.1) op c
 | [],op,c,_=>rfl
 | p :: ps,op,c,h=>by
  have hr:=λq hq=>h q (List.mem_cons_of_mem _ hq)
  cases hk:aJ p.1
  ·rw[List.filter_cons_of_neg (by simp[hk]),dY];have hs:stepT op c p.1 p.2.1=some (0,op,c):=by
    have hk2:=hk;simp only[aJ,decide_eq_false_iff_not,not_or]at hk2;unfold stepT;rw[if_neg hk2.2.1,if_neg hk2.1,if_neg hk2.2.2]
   rw[hs];simp only;rw[if_pos (h p (by simp) hk).symm];exact uH ps op c hr
  rw[List.filter_cons_of_pos (by simp[hk]),dY,dY];cases hs:stepT op c p.1 p.2.1 with
  | none=>rfl
  | some y=>
   obtain⟨i,pn,c2⟩:=y;simp only
   split
   ·exact uH ps pn c2 hr
   rfl
def jj(f:List It):List It:=f.filter λx=>aJ x.1
def gE(f:List It):List It:=f.filter λx=>decide (x.1≠1)
theorem sZ(f:List It):jj (gE f)=jj f:=by
 unfold jj gE;rw[List.filter_filter];refine List.filter_congr λx _=>?_
 by_cases h:x.1=1
 ·simp[aJ,h]
 simp[h]
theorem mn:∀f:List It,gE (aN f)=gE f
 | []=>rfl
 | x :: f=>by
  have e:gE (aN (x :: f))=gE (if x.1=1 then x.2.1.map (λc=>((1:Int),[c],(0:Int)))else[x])++gE (aN f):=by rw[oG];unfold gE;rw[List.filter_append]
  rw[e,mn f]
  split
  ·rename_i h
   have e1:gE (x.2.1.map (λc=>((1:Int),[c],(0:Int))))=[]:=by
    unfold gE;rw[List.filter_eq_nil_iff];intro y hy;obtain⟨c,_,rfl⟩:=List.mem_map.1 hy;simp
   rw[e1];unfold gE;rw[List.filter_cons_of_neg (by simp[h])];rfl
  rename_i h
  unfold gE;rw[List.filter_cons_of_pos (by simp[h]),List.filter_cons_of_pos (by simp[h])];rfl
theorem Cl(f:List It):jj (aN f)=jj f:=by rw[<-sZ,mn,sZ]
theorem Nc{f:List It}(h:∀x∈gE f,aJ x.1=false->x.2.2=0):∀p∈aN f,aJ p.1=false->p.2.2=0:=by
 intro p hp hk
 by_cases h1:p.1=1
 ·unfold aN at hp;obtain⟨x,hx,hp⟩:=List.mem_flatMap.1 hp
  split at hp
  ·obtain⟨c,_,rfl⟩:=List.mem_map.1 hp;rfl
  rename_i h2
  simp at hp;subst hp;exact absurd h1 h2
 refine h p ?_ hk;rw[<-mn];exact List.mem_filter.2 ⟨hp,by simpa using h1⟩
end Go.Proofs.YthoemdibbldndaaGreatDoor.St
namespace Go.Proofs.YthoemdibbldndaaGreatDoor.St
structure zI (f op:List It) (c:Nat):Prop where
 bw:ea f
 ids:∀y∈f,aJ y.1=true->1<=y.2.2/\y.2.2<=c
 opens:∀o∈op,o.1=2/\1<=o.2.2/\o.2.2<=c/\∀y∈f,aJ y.1=true->y.2.2=o.2.2->y=o
 apart:op.Pairwise λa b=>a.2.2≠b.2.2
theorem DO:∀(ps f op:List It) (c:Nat) {b7:List It} {c':Nat},dY ps op c=some (b7,c')->zI f op c->zI (f++ps) b7 c'
 | [],f,op,c,b7,c',h,hi=>by
  simp only[dY,Option.some.injEq,Prod.mk.injEq]at h;obtain⟨rfl,rfl⟩:=h;simpa using hi
 | p :: ps,f,op,c,b7,c',h,hi=>by
  rw[dY]at h;cases hs:stepT op c p.1 p.2.1 with
  | none=>rw[hs]at h;cases h
  | some y=>
   obtain⟨i,pn,c2⟩:=y;rw[hs]at h;simp only at h
   split at h
   ·rename_i hp
    subst hp
    have key:zI (f++[p]) pn c2:=by
     unfold stepT at hs
     split at hs
     ·rename_i h3
      rcases cG op with rfl|⟨UG,o,rfl⟩
      ·cases hs
      simp only[List.getLast?_append,List.getLast?_singleton,Option.some_or,List.dropLast_concat]at hs
      split at hs
      ·rename_i hn
       simp only[Option.some.injEq,Prod.mk.injEq]at hs;obtain⟨h5,rfl,rfl⟩:=hs;obtain⟨o1,o2,o3,o4⟩:=hi.opens o (by simp);have hap:=List.pairwise_append.1 hi.apart;refine⟨ff hi.bw λ_ y hy=>?_,λy hy ht=>?_,λq hq=>?_,hap.1⟩
       ·cases ht:aJ y.1
        ·exact qH ht
        by_cases he:y.2.2=o.2.2
        ·have:=o4 y hy ht he
         subst this;unfold bw;simp[h3,o1,hn]
        exact n6 (by rw[<-h5];exact he)
       ·rcases List.mem_append.1 hy with hy|hy
        ·exact hi.ids y hy ht
        simp at hy;subst hy;rw[<-h5];exact⟨o2,o3⟩
       obtain⟨q1,q2,q3,q4⟩:=hi.opens q (by simp[hq]);refine⟨q1,q2,q3,λy hy ht he=>?_⟩;rcases List.mem_append.1 hy with hy|hy
       ·exact q4 y hy ht he
       simp at hy;subst hy;exact absurd (he.symm.trans h5.symm) (hap.2.2 q hq o (by simp))
      cases hs
     have hne:∀y∈f,aJ y.1=true->y.2.2≠(c:Int)+1:=λy hy ht=>by have:=hi.ids y hy ht;omega
     have hcl:p.2.2=(c:Int)+1->ea (f++[p]):=λhp=>ff hi.bw λ_ y hy=>by
      cases ht:aJ y.1
      ·exact qH ht
      exact n6 (by rw[hp];exact hne y hy ht)
     split at hs
     ·rename_i h3 h2
      simp only[Option.some.injEq,Prod.mk.injEq]at hs;obtain⟨h5,rfl,rfl⟩:=hs;refine⟨hcl h5.symm,λy hy ht=>?_,λq hq=>?_,?_⟩
      ·rcases List.mem_append.1 hy with hy|hy
       ·have:=hi.ids y hy ht;omega
       simp at hy;subst hy;omega
      ·rcases List.mem_append.1 hq with hq|hq
       ·obtain⟨q1,q2,q3,q4⟩:=hi.opens q hq;refine⟨q1,q2,by omega,λy hy ht he=>?_⟩;rcases List.mem_append.1 hy with hy|hy
        ·exact q4 y hy ht he
        simp at hy;subst hy;omega
       simp at hq;subst hq;refine⟨rfl,by simp only;omega,by simp only;omega,λy hy ht he=>?_⟩;rcases List.mem_append.1 hy with hy|hy
       ·exact absurd he (hne y hy ht)
       simp at hy;subst hy;obtain⟨k,t,i⟩:=y;simp only at h2 h5 |-;rw[h2,h5]
      rw[List.pairwise_append];refine⟨hi.apart,by simp,λa ha b hb=>?_⟩;simp at hb;subst hb;have:=(hi.opens a ha).2.2.1
      simp only;omega
     split at hs
     ·rename_i h3 h2 h4
      simp only[Option.some.injEq,Prod.mk.injEq]at hs;obtain⟨h5,rfl,rfl⟩:=hs;refine⟨hcl h5.symm,λy hy ht=>?_,λq hq=>?_,hi.apart⟩
      ·rcases List.mem_append.1 hy with hy|hy
       ·have:=hi.ids y hy ht;omega
       simp at hy;subst hy;omega
      obtain⟨q1,q2,q3,q4⟩:=hi.opens q hq;refine⟨q1,q2,by omega,λy hy ht he=>?_⟩;rcases List.mem_append.1 hy with hy|hy
      ·exact q4 y hy ht he
      simp at hy;subst hy;omega
     rename_i h3 h2 h4
     simp only[Option.some.injEq,Prod.mk.injEq]at hs;obtain⟨h5,rfl,rfl⟩:=hs;have hnt:aJ p.1=false:=by unfold aJ;simp[h2,h3,h4]
     refine⟨ff hi.bw (λht=>by rw[hnt]at ht;cases ht),λy hy ht=>?_,λq hq=>?_,hi.apart⟩
     ·rcases List.mem_append.1 hy with hy|hy
      ·exact hi.ids y hy ht
      simp at hy;subst hy;rw[hnt]at ht;cases ht
     obtain⟨q1,q2,q3,q4⟩:=hi.opens q hq;refine⟨q1,q2,q3,λy hy ht he=>?_⟩;rcases List.mem_append.1 hy with hy|hy
     ·exact q4 y hy ht he
     simp at hy;subst hy;rw[hnt]at ht;cases ht
    have:=DO ps (f++[p]) pn c2 h key
    simpa using this
   cases h
theorem Io{ps op:List It}{c:Nat}(h:dY ps [] 0=some (op,c)):zI ps op c:=by
 have:=DO ps [] [] 0 h ⟨List.Pairwise.nil,(λ_ h=>by cases h),(λ_ h=>by cases h),List.Pairwise.nil⟩
 simpa using this
theorem yG:∀(ps op:List It) (c:Nat) {b7:List It} {c':Nat},dY ps op c=some (b7,c')->c'<=c+(jj ps).length
 | [],op,c,b7,c',h=>by
  simp only[dY,Option.some.injEq,Prod.mk.injEq]at h;omega
 | p :: ps,op,c,b7,c',h=>by
  rw[dY]at h;cases hs:stepT op c p.1 p.2.1 with
  | none=>rw[hs]at h;cases h
  | some y=>
   obtain⟨i,pn,c2⟩:=y;rw[hs]at h;simp only at h
   split at h
   ·have ih:=yG ps pn c2 h;have e:(jj (p :: ps)).length=(if aJ p.1=true then 1 else 0)+(jj ps).length:=by
     unfold jj;rw[List.filter_cons]
     split<;>simp<;>omega
    rw[e];unfold stepT at hs
    repeat' split at hs
    all_goals simp only[Option.some.injEq,Prod.mk.injEq,reduceCtorEq]at hs
    all_goals (try (obtain⟨_,_,rfl⟩:=hs))
    all_goals first|omega|(rw[if_pos (by simp[aJ, *])];omega)
   cases h
theorem BH(f:List It):ea f ↔ ea (jj f):=by
 unfold ea jj;rw[List.pairwise_filter];constructor
 ·intro h;exact h.imp fun {a b} h _ _=>h
 intro h;refine h.imp fun {a b} h ht=>?_
 cases ha:aJ a.1
 ·exact qH ha
 exact h ha ht ht
def GI(fmt:Int)(x:It):Prop:=(x.1=5/\aB x.2.1=true/\x.2.2=0)\/(fmt=1/\(((x.1=2\/x.1=4)/\aI x.2.1=true/\bu (nameOf x.2.1)=false/\1<=x.2.2/\x.2.2<=999)\/(x.1=3/\aB x.2.1=true/\bu x.2.1=false/\1<=x.2.2/\x.2.2<=999)))
structure lv (fmt:Int) (t:List It):Prop where
 nm:Nm t
 items:∀x∈gE t,GI fmt x
 bw:ea t
theorem Bw{t:List It}{x:It}(hx:x∈t):x.1=1\/x∈gE t:=by
 by_cases h:x.1=1
 ·exact .inl h
 exact .inr (List.mem_filter.2 ⟨hx,by simpa using h⟩)
theorem lv.Lv{fmt:Int}{t:List It}(h:lv fmt t):∀x∈t,nD x:=λx hx=>by
 rcases Bw hx with h1|h1
 ·exact .inl ⟨h1,mm h.nm x hx h1⟩
 rcases h.items x h1 with g|⟨_,g|g⟩
 ·exact .inr (.inl g)
 ·exact .inr (.inr (.inl g))
 exact .inr (.inr (.inr g))
theorem lv.O1{fmt:Int}{t:List It}(h:lv fmt t)(h1:fmt≠1):∀x∈t,Jo x:=λx hx=>by
 rcases Bw hx with h2|h2
 ·exact⟨mm h.nm x hx h2,.inl h2⟩
 rcases h.items x h2 with⟨g1,g2,g3⟩|⟨g,_⟩
 ·exact⟨g3,.inr ⟨g1,g2⟩⟩
 exact absurd g h1
theorem lv.enc{fmt:Int}{t:List It}(h:lv fmt t)(h1:t.length<=512)(h2:ay t<=1024):bj fmt t=((aN t).flatMap (aH fmt),0):=by
 rw[<-Me]
 by_cases hf:fmt=1
 ·subst hf;exact Md (BE h.nm) h.Lv h.bw h1 h2
 exact NM fmt (BE h.nm) (h.O1 hf) h1 h2
theorem lv.Kr{fmt:Int}{t:List It}(h:lv fmt t):∀p∈aN t,r5 p/\(fmt≠1->n3 p):=by
 intro p hp;refine⟨Kt h.Lv p hp,λhf=>?_⟩;unfold aN at hp;obtain⟨x,hx,hp⟩:=List.mem_flatMap.1 hp;obtain⟨h0,g⟩:=h.O1 hf x hx
 split at hp
 ·obtain⟨c,_,rfl⟩:=List.mem_map.1 hp;exact .inl ⟨c,rfl⟩
 rename_i h1
 simp at hp;subst hp;rcases g with g|⟨g1,g2⟩
 ·exact absurd g h1
 obtain⟨k,u,i⟩:=p;simp only at h0 g1 g2;subst h0 g1;exact .inr ⟨u,rfl,g2⟩
theorem Di:∀p:It,n3 p->jE bX (aH 2 p) p:=by
 rintro p (⟨c,rfl⟩|⟨t,rfl,ht⟩)
 ·have e:aH 2 (1,[c],0)=bh 2 c:=by simp[aH]
  rw[e];exact⟨λh0=>by have:=(kJ 2 c).1;rw[h0]at this;simp at this,by simp,λrest=>KC c rest⟩
 have e:aH 2 (5,t,0)=123 :: (t++[125]):=by simp[aH]
 rw[e];exact⟨by simp,by simp,λrest=>B3 ht rest⟩
theorem xY:∀p:It,n3 p->jE ci (aH 3 p) p:=by
 rintro p (⟨c,rfl⟩|⟨t,rfl,ht⟩)
 ·have e:aH 3 (1,[c],0)=bh 3 c:=by simp[aH]
  rw[e];refine⟨λh0=>by have:=(kJ 3 c).1;rw[h0]at this;simp at this,by simp,λrest=>?_⟩
  by_cases qe:c.toNat=34
  ·obtain rfl:=gV qe;rfl
  by_cases cT:c.toNat=123
  ·obtain rfl:=gV cT;rfl
  have e2:bh 3 c=[c]:=by unfold bh;simp[qe,cT]
  rw[e2]
  show ci (c :: rest)=_
  rw[ci,if_neg qe,if_neg cT];rfl
 have e:aH 3 (5,t,0)=123 :: (t++[125]):=by simp[aH]
 rw[e];refine⟨by simp,by simp,λrest=>?_⟩;have e2:123 :: (t++[125])++rest=123 :: (t++125 :: rest):=by simp
 obtain⟨c,r,hc,hc2⟩:=MC ht
 have hp:([123,123]:List UInt8).isPrefixOf (123 :: (t++125 :: rest))=false:=by
  rw[hc];simp only[List.cons_append,List.isPrefixOf]
  have:((123:UInt8)==c)=false:=by
   refine Bool.eq_false_iff.2 λe=>hc2 ?_
   rw[<-eq_of_beq e];rfl
  simp[this]
 rw[e2,ci,if_neg (by decide),if_pos (by decide),hp,yY ht];simp
def F8(fmt:Int):List UInt8->El:=if fmt=1 then bS else if fmt=2 then bX else ci
def zQ(fmt:Int)(k:Int)(t:List UInt8):Prop:=k=1\/(k=5/\aB t=true)\/(fmt=1/\(((k=2\/k=4)/\aI t=true/\bu (nameOf t)=false)\/(k=3/\aB t=true/\bu t=false)))
end Go.Proofs.YthoemdibbldndaaGreatDoor.St
namespace Go.Proofs.YthoemdibbldndaaGreatDoor.St
theorem tG(p:UInt8->Bool):∀r:List UInt8,(r.takeWhile p).length<r.length->∃x r',r=r.takeWhile p++x :: r'/\p x=false
 | [],h=>by simp at h
 | c :: r,h=>by
  by_cases hc:p c=true
  ·rw[List.takeWhile_cons_of_pos hc]at h |-;obtain⟨x,r',h1,h2⟩:=tG p r (by simpa using h);exact⟨x,r',by rw[List.cons_append,<-h1],h2⟩
  exact⟨c,r,by rw[List.takeWhile_cons_of_neg hc];rfl,by simpa using hc⟩
theorem Cq(p:UInt8->Bool):∀(r:List UInt8),∀c∈r.takeWhile p,p c=true
 | c :: r,d,h=>by
  by_cases hc:p c=true
  ·rw[List.takeWhile_cons_of_pos hc]at h;rcases List.mem_cons.1 h with rfl|h
   ·exact hc
   exact Cq p r d h
  rw[List.takeWhile_cons_of_neg hc]at h;cases h
theorem sV{c:UInt8}{r:List UInt8}{x:List UInt8 × Nat}(hc:c.toNat=123)(h:cJ (c :: r)=some x):(c :: r).take x.2=123 :: (x.1++[125])/\aB x.1=true/\x.2=x.1.length+2:=by
 unfold cJ at h;simp only[List.drop_succ_cons,List.drop_zero]at h
 split at h
 ·rename_i hq
  rw[Bool.and_eq_true,decide_eq_true_eq]at hq;simp only[Option.some.injEq]at h;subst h;obtain⟨y,r',h1,h2⟩:=tG (λc=>decide (c.toNat≠125)) r (by simpa using hq.1);have hy:=gV (show y.toNat=125 by simpa using h2);have hc2:=gV hc;refine⟨?_,hq.2,rfl⟩;generalize r.takeWhile (λc=>decide (c.toNat≠125))=u at h1;subst hy hc2;rw[h1];have e:UInt8.ofNat 123 :: (u++UInt8.ofNat 125 :: r')=(UInt8.ofNat 123 :: (u++[UInt8.ofNat 125]))++r':=by simp
  rw[e];exact List.take_left' (by simp)
 cases h
theorem KN{c:UInt8}{r t:List UInt8}{k:Int}{n:Nat}(hc:c.toNat=60)(h:fR (c :: r)=some (k,t,n)):∃u,(c :: r).take n=[60]++u++[62]/\(∀d∈u,d.toNat≠62)/\eL u=some (k,t)/\n=u.length+2:=by
 unfold fR at h
 split at h
 ·rename_i hl
  cases hq:eL (da (c :: r))with
  | none=>rw[hq]at h;cases h
  | some x=>
   obtain⟨k',t'⟩:=x;rw[hq]at h;simp only[Option.map_some,Option.some.injEq,Prod.mk.injEq]at h;obtain⟨rfl,rfl,rfl⟩:=h;refine⟨da (c :: r),?_,λd hd=>?_,hq,rfl⟩
   ·have hin:da (c :: r)=r.takeWhile (λc=>decide (c.toNat≠62)):=rfl;rw[hin]at hl |-;obtain⟨y,r',h1,h2⟩:=tG (λc=>decide (c.toNat≠62)) r (by simpa using hl);have hy:=gV (show y.toNat=62 by simpa using h2);have hc2:=gV hc;generalize r.takeWhile (λc=>decide (c.toNat≠62))=u at h1;subst hy hc2;rw[h1];have e:UInt8.ofNat 60 :: (u++UInt8.ofNat 62 :: r')=([60]++u++[62])++r':=by simp
    rw[e];exact List.take_left' (by simp)
   have:=Cq _ _ d hd
   simpa using this
 cases h
theorem BN{m l:List UInt8}(h:m.isPrefixOf l=true):l.take m.length=m:=(List.prefix_iff_eq_take.1 (List.isPrefixOf_iff_prefix.1 h)).symm
theorem IW{u t:List UInt8}{k:Int}(h:eL u=some (k,t))(hb:bu (nameOf t)=false):zQ 1 k t:=by
 unfold eL at h
 split at h
 ·split at h
  ·rename_i hn
   simp only[Option.some.injEq,Prod.mk.injEq]at h;obtain⟨rfl,rfl⟩:=h;rw[pO hn]at hb;exact .inr (.inr ⟨rfl,.inr ⟨rfl,hn,hb⟩⟩)
  cases h
 split at h
 ·split at h
  ·rename_i hn
   simp only[Option.some.injEq,Prod.mk.injEq]at h;obtain⟨rfl,rfl⟩:=h;exact .inr (.inr ⟨rfl,.inl ⟨.inr rfl,hn,hb⟩⟩)
  cases h
 split at h
 ·rename_i hn
  simp only[Option.some.injEq,Prod.mk.injEq]at h;obtain⟨rfl,rfl⟩:=h;exact .inr (.inr ⟨rfl,.inl ⟨.inl rfl,hn,hb⟩⟩)
 cases h
theorem Kh:zC bS (zQ 1):=by
 refine⟨DF,λl k t n h hk=>?_,λl t n h=>?_⟩
 ·match l,h with
  | c :: r,h=>
   by_cases lg:c.toNat=60
   ·rw[nS lg]at h;unfold sI at h;cases hq:fR (c :: r)with
    | none=>rw[hq]at h;cases h
    | some x=>
     obtain⟨k',t',n'⟩:=x;rw[hq]at h;simp only at h
     split at h
     ·cases h
     rename_i hb
     simp only[Option.some.injEq,Prod.mk.injEq]at h;obtain⟨rfl,rfl,rfl⟩:=h;obtain⟨u,g1,g2,g3,g4⟩:=KN lg hq;have hb':bu (nameOf t')=false:=by simpa using hb
     refine⟨IW g3 hb',λrest=>?_⟩;rw[g1,vL g2 g3 hb',g4]
   by_cases o7:c.toNat=38
   ·rw[iG o7]at h;unfold rp at h
    repeat' split at h
    all_goals first|(simp only[reduceCtorEq]at h;done)|skip
    all_goals
     rename_i hp
     simp only[Option.some.injEq,Prod.mk.injEq]at h;obtain⟨rfl,rfl,rfl⟩:=h;have:=BN hp
     simp only[List.length_cons,List.length_nil,Nat.zero_add,Nat.reduceAdd]at this;refine⟨.inl rfl,λrest=>?_⟩;rw[this]
     show bS (38 :: _)=_
     rw[iG (by rfl)];rfl
   by_cases cT:c.toNat=123
   ·rw[kS cT]at h;cases hq:cJ (c :: r)with
    | none=>rw[hq]at h;cases h
    | some x=>
     rw[hq]at h;simp only[Option.map_some,Option.some.injEq,Prod.mk.injEq]at h;obtain⟨rfl,rfl,rfl⟩:=h;obtain⟨g1,g2,g3⟩:=sV cT hq;refine⟨.inr (.inl ⟨rfl,g2⟩),λrest=>?_⟩;rw[g1]
     show bS (123 :: _)=_
     have:=wm (rest:=rest) g2
     rw[kS (by rfl)];have e:([123]++x.1++[125]++rest:List UInt8)=123 :: (x.1++[125]++rest):=by simp
     rw[e]at this;have this:cJ (123 :: (x.1++[125]).append rest)=_:=this;rw[this,g3];rfl
   rw[jO lg o7 cT]at h;simp only[Option.some.injEq,Prod.mk.injEq]at h;obtain⟨rfl,rfl,rfl⟩:=h;exact⟨.inl rfl,λrest=>jO lg o7 cT⟩
 have:=(oB h).1
 omega
theorem sR:pB bX:=λl k t n h=>by
 obtain⟨_,h1,h2,h3⟩:=iJ h;refine⟨h1,h2,h3,?_⟩;rintro rfl
 match l,h with
 | c :: r,h=>
  by_cases h10:c.toNat=10
  ·rw[qt h10]at h;cases h
  by_cases gK:c.toNat=92
  ·match r,h with
   | [],h=>rw[nV gK]at h;cases h
   | d :: r',h=>
    by_cases hd:d.toNat=10
    ·rw[jV gK hd]at h;simp at h
    rw[my gK hd]at h;cases he:mf d with
    | none=>rw[he]at h;cases h
    | some e=>
     rw[he]at h;simp only[Option.map_some,Option.some.injEq,Prod.mk.injEq]at h;obtain⟨_,rfl,_⟩:=h;rfl
  by_cases cT:c.toNat=123
  ·rw[mx cT]at h;cases hq:cJ (c :: r)with
   | none=>rw[hq]at h;cases h
   | some x=>rw[hq]at h;simp at h
  rw[jW h10 gK cT]at h;simp only[Option.some.injEq,Prod.mk.injEq]at h;obtain⟨_,rfl,_⟩:=h;rfl
theorem MW:zC bX (zQ 2):=by
 refine⟨sR,λl k t n h hk=>?_,λl t n h c r r' hd=>?_⟩
 ·match l,h with
  | c :: r,h=>
   by_cases h10:c.toNat=10
   ·rw[qt h10]at h;cases h
   by_cases gK:c.toNat=92
   ·match r,h with
    | [],h=>rw[nV gK]at h;cases h
    | d :: r',h=>
     by_cases hd:d.toNat=10
     ·rw[jV gK hd]at h;simp only[Option.some.injEq,Prod.mk.injEq]at h;exact absurd h.1.symm hk
     rw[my gK hd]at h;cases he:mf d with
     | none=>rw[he]at h;cases h
     | some e=>
      rw[he]at h;simp only[Option.map_some,Option.some.injEq,Prod.mk.injEq]at h;obtain⟨rfl,rfl,rfl⟩:=h;refine⟨.inl rfl,λrest=>?_⟩
      show bX (c :: d :: rest)=_
      rw[my gK hd,he];rfl
   by_cases cT:c.toNat=123
   ·rw[mx cT]at h;cases hq:cJ (c :: r)with
    | none=>rw[hq]at h;cases h
    | some x=>
     rw[hq]at h;simp only[Option.map_some,Option.some.injEq,Prod.mk.injEq]at h;obtain⟨rfl,rfl,rfl⟩:=h;obtain⟨g1,g2,g3⟩:=sV cT hq;refine⟨.inr (.inl ⟨rfl,g2⟩),λrest=>?_⟩;rw[g1,B3 g2,g3];simp
   rw[jW h10 gK cT]at h;simp only[Option.some.injEq,Prod.mk.injEq]at h;obtain⟨rfl,rfl,rfl⟩:=h;exact⟨.inl rfl,λrest=>jW h10 gK cT⟩
 match l,h with
 | c1 :: r1,h=>
  by_cases h10:c1.toNat=10
  ·rw[qt h10]at h;cases h
  by_cases gK:c1.toNat=92
  ·match r1,h with
   | [],h=>rw[nV gK]at h;cases h
   | d :: r2,h=>
    by_cases hd2:d.toNat=10
    ·rw[jV gK hd2]at h;simp only[Option.some.injEq,Prod.mk.injEq]at h;obtain⟨_,rfl,rfl⟩:=h
     have hdr:r2.drop (dT r2)=c :: r:=by
      rw[Nat.add_comm]at hd;simpa using hd
     have hlt:(r2.takeWhile fJ).length<r2.length:=by
      have:=congrArg List.length hdr
      simp[dT]at this;omega
     obtain⟨y,r3,g1,g2⟩:=tG fJ r2 hlt;have nv:dT r2=(r2.takeWhile fJ).length:=rfl;have QV:=Cq fJ r2;generalize r2.takeWhile fJ=u at g1 nv hlt QV
     have hy:y=c:=by
      rw[nv,g1,List.drop_left]at hdr;exact(List.cons.inj hdr).1
     subst hy
     have ht:(c1 :: d :: r2).take (2+dT r2)=c1 :: d :: u:=by
      rw[Nat.add_comm,List.take_succ_cons,List.take_succ_cons,nv];congr 2;rw[g1,List.take_left]
     rw[ht]
     show bX (c1 :: d :: (u++y :: r'))=_
     rw[jV gK hd2,nv]
     have:dT (u++y :: r')=u.length:=by
      unfold dT;rw[List.takeWhile_append_of_pos QV,List.takeWhile_cons_of_neg (by simp[g2]),List.append_nil]
     rw[this]
    rw[my gK hd2]at h;cases he:mf d with
    | none=>rw[he]at h;cases h
    | some e=>rw[he]at h;simp at h
  by_cases cT:c1.toNat=123
  ·rw[mx cT]at h;cases hq:cJ (c1 :: r1)with
   | none=>rw[hq]at h;cases h
   | some x=>rw[hq]at h;simp at h
  rw[jW h10 gK cT]at h;simp at h
theorem mG{c:UInt8}{r:List UInt8}{k:Int}{t:List UInt8}{n:Nat}(h:ci (c :: r)=some (k,t,n)):(k=1/\t.length=1/\1<=n/\n<=(c :: r).length/\∀rest,ci ((c :: r).take n++rest)=some (k,t,n))\/(k=5/\aB t=true/\n=t.length+2/\n<=(c :: r).length/\∀rest,ci ((c :: r).take n++rest)=some (k,t,n)):=by
 rw[ci]at h
 split at h
 ·rename_i qe
  split at h
  ·rename_i hp
   have hl:=(List.isPrefixOf_iff_prefix.1 hp).length_le;have ht:=BN hp;simp only[Option.some.injEq,Prod.mk.injEq]at h;obtain⟨rfl,rfl,rfl⟩:=h;refine .inl ⟨rfl,rfl,by omega,by simpa using hl,λrest=>?_⟩;simp only[List.length_cons,List.length_nil,Nat.zero_add,Nat.reduceAdd]at ht;rw[ht];rfl
  cases h
 split at h
 ·rename_i qe cT
  split at h
  ·rename_i hp
   have hl:=(List.isPrefixOf_iff_prefix.1 hp).length_le;have ht:=BN hp;simp only[Option.some.injEq,Prod.mk.injEq]at h;obtain⟨rfl,rfl,rfl⟩:=h;refine .inl ⟨rfl,rfl,by omega,by simpa using hl,λrest=>?_⟩;simp only[List.length_cons,List.length_nil,Nat.zero_add,Nat.reduceAdd]at ht;rw[ht];rfl
  cases hq:cJ (c :: r)with
  | none=>rw[hq]at h;cases h
  | some x=>
   rw[hq]at h;simp only[Option.map_some,Option.some.injEq,Prod.mk.injEq]at h;obtain⟨rfl,rfl,rfl⟩:=h;obtain⟨g1,g2,g3⟩:=sV cT hq;refine .inr ⟨rfl,g2,g3,(Ch hq).2.1,λrest=>?_⟩;have hp2:=(xY (5,x.1,0) (.inr ⟨x.1,rfl,g2⟩)).2.2 rest;have e:aH 3 (5,x.1,0)=123 :: (x.1++[125]):=by simp[aH]
   rw[e]at hp2;rw[g1,hp2,g3];simp
 rename_i qe cT
 simp only[Option.some.injEq,Prod.mk.injEq]at h;obtain⟨rfl,rfl,rfl⟩:=h;refine .inl ⟨rfl,rfl,by omega,by simp,λrest=>?_⟩
 show ci (c :: rest)=_
 rw[ci,if_neg qe,if_neg cT]
theorem IK:zC ci (zQ 3):=by
 refine⟨λl k t n h=>?_,λl k t n h hk=>?_,λl t n h=>?_⟩
 ·match l,h with
  | c :: r,h=>
   rcases mG h with⟨rfl,h2,h3,h4,_⟩|⟨rfl,h2,h3,h4,_⟩
   ·exact⟨h3,h4,by omega,λ_=>h2⟩
   exact⟨by omega,h4,by omega,λe=>absurd e (by decide)⟩
 ·match l,h with
  | c :: r,h=>
   rcases mG h with⟨rfl,h2,h3,h4,h5⟩|⟨rfl,h2,h3,h4,h5⟩
   ·exact⟨.inl rfl,h5⟩
   exact⟨.inr (.inl ⟨rfl,h2⟩),h5⟩
 match l,h with
 | c :: r,h=>
  rcases mG h with⟨h1,_⟩|⟨h1,_⟩
  ·exact absurd h1 (by decide)
  exact absurd h1 (by decide)
theorem Dl{fmt:Int}(h:fmt=1\/fmt=2\/fmt=3):zC (F8 fmt) (zQ fmt):=by
 rcases h with rfl|rfl|rfl
 ·exact Kh
 ·exact MW
 exact IK
end Go.Proofs.YthoemdibbldndaaGreatDoor.St
