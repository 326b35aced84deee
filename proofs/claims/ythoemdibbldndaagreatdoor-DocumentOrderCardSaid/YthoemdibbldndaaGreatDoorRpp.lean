/- Plain: a raw content that is read without an error is pieces, whatever stands behind them. -/
import Derived.Test.YthoemdibbldndaaGreatDoorRsB
import Derived.Test.YthoemdibbldndaaGreatDoorDcD
set_option linter.all false
namespace Go.Proofs.YthoemdibbldndaaGreatDoor.St
def oN(E:List UInt8->El)(b:List UInt8)(x:It):Prop:=b≠[]/\∀(rest:List UInt8) (a d:Nat) (f:List It) (cuts:List Nat) (op:List It) (c:Nat) (i:Int) (cJ:List It) (c':Nat),stepT op c x.1 x.2.1=some (i,cJ,c')->¬H9 f (x.1,x.2.1,i) cuts ->
 eP E (b++rest) a d f cuts op c=eP E rest (a+b.length) (a+b.length) (aK f (x.1,x.2.1,i)) (cuts++[d]) cJ c'
theorem j5.BZ{E:List UInt8->El}(hE:uW E){b:List UInt8}{x:It}(h:j5 E b x):oN E b x:=by
 obtain⟨hb,hk,h1⟩:=h;refine⟨hb,λrest a d f cuts op c i cJ c' hs hf=>?_⟩;rw[Ht hE a d f cuts (by simp[hb]) (h1 rest) hk hs hf,List.drop_left]
theorem oV{E:List UInt8->El}:∀(ps:List (List UInt8 × It)) (rest:List UInt8) (a d:Nat) (f:List It) (cuts:List Nat) (op:List It) (c:Nat) {cJ:List It} {c':Nat},(∀p∈ps,oN E p.1 p.2)->fy (fJ ps) op c=some (cJ,c')->((fJ ps).foldl aK f).length<=512->cuts.length+ps.length<=1024 ->
  eP E (a6 ps++rest) a d f cuts op c=eP E rest (a+(a6 ps).length) (if ps=[]then d else a+(a6 ps).length) ((fJ ps).foldl aK f) (cuts++wH a d ps) cJ c'
 | [],rest,a,d,f,cuts,op,c,cJ,c',_,ho,_,_=>by
  simp only[fJ,List.map_nil,fy,Option.some.injEq,Prod.mk.injEq]at ho;obtain⟨rfl,rfl⟩:=ho;simp[a6,fJ,wH]
 | p :: ps,rest,a,d,f,cuts,op,c,cJ,c',hp,ho,hl,hc=>by
  obtain⟨hb,h1⟩:=hp p (by simp);have hl':((fJ ps).foldl aK (aK f p.2)).length<=512:=hl;have e:a6 (p :: ps)++rest=p.1++(a6 ps++rest):=by simp[a6]
  have ho':fy (p.2 :: fJ ps) op c=some (cJ,c'):=ho;rw[fy]at ho';cases hs:stepT op c p.2.1 p.2.2.1 with
  | none=>rw[hs]at ho';cases ho'
  | some y=>
   obtain⟨i,yr,c2⟩:=y;rw[hs]at ho';simp only at ho'
   split at ho'
   ·rename_i hi
    subst hi;have hx:((p.2.1,p.2.2.1,p.2.2.2):It)=p.2:=rfl
    have hfn:¬H9 f (p.2.1,p.2.2.1,p.2.2.2) cuts:=by
     rw[hx];rintro (h|h)
     ·have:=B8 (fJ ps) (aK f p.2);omega
     simp at hc;omega
    rw[e,h1 _ a d f cuts op c _ _ _ hs hfn,hx];rw[oV ps rest _ _ _ _ _ _ (λq hq=>hp q (by simp[hq])) ho' hl' (by simp at hc |-;omega)];have e2:a+p.1.length+(a6 ps).length=a+(a6 (p :: ps)).length:=by simp[a6];omega
    have e3:(if ps=[]then a+p.1.length else a+p.1.length+(a6 ps).length)=a+(a6 (p :: ps)).length:=by
     split
     ·rename_i h;subst h;simp[a6]
     exact e2
    rw[e2];rw[e2]at e3;rw[e3];simp[fJ,wH]
   cases ho'
structure Ce (E:List UInt8->El) (G:Int->List UInt8->Prop):Prop where
 ok:qA E
 elem:∀l k t n,E l=some (k,t,n)->k≠0->G k t/\∀rest,E (l.take n++rest)=some (k,t,n)
 skip:∀l t n,E l=some (0,t,n)->∀c r r',l.drop n=c :: r->E (l.take n++c :: r')=some (0,t,n)
theorem qA.QY{E:List UInt8->El}(h:qA E):uW E:=λl k t n e=>let ⟨h1,h2,_⟩:=h l k t n e;⟨h1,h2⟩
theorem Hs{E:List UInt8->El}(hE:uW E){l t:List UInt8}{n:Nat}(a d:Nat)(f:List It)(cuts:List Nat)(op:List It)(c:Nat)(h0:l≠[])(h:E l=some (0,t,n)):eP E l a d f cuts op c=eP E (l.drop n) (a+n) d f cuts op c:=by
 unfold eP;obtain⟨m,hm⟩:=GQ h0;have hn:=hE _ _ _ _ h;rw[hm,lO _ _ _ _ _ h0 h];exact pZ hE _ _ _ _ _ _ _ _ _ (by simp;omega) (by simp)
def On(E:List UInt8->El)(tl:List UInt8):Prop:=∀(a d:Nat) (f:List It) (cuts:List Nat) (op:List It) (c:Nat),eP E tl a d f cuts op c=jK (a+tl.length) d f cuts op
theorem tail_nil(E:List UInt8->El):On E []:=λa d f cuts op c=>AL E a d f cuts op c
structure Hf (E:List UInt8->El) (G:Int->List UInt8->Prop) (raw:List UInt8) (R:gy) (ps:List (List UInt8 × It)) (tl:List UInt8) (c:Nat):Prop where
 flat:raw=a6 ps++tl
 tail:On E tl
 piece:∀p∈ps,oN E p.1 p.2
 good:∀p∈ps,G p.2.1 p.2.2.1
 one:∀p∈ps,p.2.1=1->p.2.2.1.length=1
 ok:fy (fJ ps) [] 0=some ([],c)
 items:R.1=(fJ ps).foldl aK []
 cuts:R.2.1=(List.range (ps.length+1)).map (cz ps)
 len:R.1.length<=512
 pos:ps.length<=1024
end Go.Proofs.YthoemdibbldndaaGreatDoor.St
namespace Go.Proofs.YthoemdibbldndaaGreatDoor.St
def bL{α:Type}(F:List It->List α)(l:List α):Nat->List (Int × Int)->List (List It)->List α
 | a,r :: rs,t :: ts=>(l.take r.1.toNat).drop a++(F t++bL F l r.2.toNat rs ts)
 | a,_,_=>l.drop a
theorem Gr{α β:Type}(g:α->β)(F:List It->List α)(l:List α):∀(rs:List (Int × Int)) (ts:List (List It)) (a:Nat),(bL F l a rs ts).map g=bL (λt=>(F t).map g) (l.map g) a rs ts
 | [],_,a=>by simp[bL]
 | r :: rs,[],a=>by simp[bL]
 | r :: rs,t :: ts,a=>by
  rw[bL,bL,List.map_append,List.map_append,Gr g F l rs ts,List.map_drop,List.map_take]
theorem Gs{α:Type}{F:List It->List α}{l:List α}{x:α}:∀(rs:List (Int × Int)) (ts:List (List It)) (a:Nat),x∈bL F l a rs ts->x∈l\/∃t∈ts,x∈F t
 | [],_,a,h=>.inl (List.mem_of_mem_drop h)
 | r :: rs,[],a,h=>.inl (List.mem_of_mem_drop h)
 | r :: rs,t :: ts,a,h=>by
  rw[bL]at h;rcases List.mem_append.1 h with h|h
  ·exact .inl (List.mem_of_mem_take (List.mem_of_mem_drop h))
  rcases List.mem_append.1 h with h|h
  ·exact .inr ⟨t,by simp,h⟩
  rcases Gs rs ts _ h with h|⟨u,hu,h⟩
  ·exact .inl h
  exact .inr ⟨u,by simp[hu],h⟩
theorem pC(a b:List It):aE (a++b)=aE a++aE b:=by simp[aE]
theorem Er(f:List It)(x:It):aE (aK f x)=aE f++aE [x]:=by
 by_cases h:x.1=1
 ·have e:aK f x=aK f (1,x.2.1,0):=by unfold aK;simp[h]
  rw[e,BE];simp[aE,h]
 rw[gO h,pC]
theorem uy:∀(f g:List It),aE (f.foldl aK g)=aE g++aE f
 | [],g=>by simp[aE]
 | x :: f,g=>by
  rw[List.foldl_cons,uy f,Er,List.append_assoc,<-pC];rfl
theorem uz(f:List It):aE (bI f)=aE f:=uy f []
theorem zR:∀(f g:List It),Nm g->Nm (f.foldl aK g)
 | [],_,h=>h
 | x :: f,_,h=>zR f _ (eJ h x)
theorem PB(f:List It):Nm (bI f):=zR f [] nQ
theorem Eg:∀(f:List It) (p:Bool),lN p f->∀x∈f,x.1=1->x.2.2=0
 | y :: f,p,h,x,hx,h1=>by
  rcases List.mem_cons.1 hx with rfl|hx
  ·exact(h.1 h1).2.1
  exact Eg f _ h.2 x hx h1
theorem kL{f:List It}(h:Nm f):∀x∈f,x.1=1->x.2.2=0:=Eg f _ (uw h)
theorem BJ(f:List It):∀(rs:List (Int × Int)) (ts:List (List It)) (a:Nat) (out:List It),aE (kO f a out rs ts).1++(aE f).drop (kO f a out rs ts).2=aE out++bL aE (aE f) a rs ts
 | [],_,a,out=>by simp[kO,bL]
 | r :: rs,[],a,out=>by simp[kO,bL]
 | r :: rs,t :: ts,a,out=>by
  rw[kO,bL,BJ f rs ts,uz,pC,uz,pC,iu];simp[List.append_assoc]
theorem ku(f:List It)(rs:List (Int × Int))(ts:List (List It)):aE (cK f rs ts)=bL aE (aE f) 0 rs ts:=by
 have h:=BJ f rs ts 0 [];unfold cK;rw[uz,pC,iu];rw[show aA f-0=(aE f).length by rw[ep];omega,List.take_length];simpa[aE]using h
theorem kP(f:List It)(rs:List (Int × Int))(ts:List (List It)):Nm (cK f rs ts):=PB _
theorem DY(ps:List (List UInt8 × It)):fJ ps=ps.map (·.2):=rfl
def fM(fmt:Int)(t:List It):List (List UInt8 × It):=(aE t).map λp=>(aL fmt p,p)
theorem Mq(fmt:Int)(t:List It):a6 (fM fmt t)=(aE t).flatMap (aL fmt):=by unfold a6 fM;rw[List.flatMap_map]
theorem Pb(fmt:Int)(t:List It):(fM fmt t).map (·.2)=aE t:=by
 unfold fM;rw[List.map_map]
 show(aE t).map (λp=>p)=_
 simp
theorem F3{fmt:Int}{raw tl:List UInt8}{ps:List (List UInt8 × It)}{cuts:List Nat}(po:raw=a6 ps++tl)(hc:cuts=(List.range (ps.length+1)).map (cz ps)):∀(rs:List (Int × Int)) (ts:List (List It)) (a:Nat) (s:List UInt8),bV ps.length a rs=true->a<=ps.length->rs.length=ts.length->(∀t∈ts,bn fmt t=((aE t).flatMap (aL fmt),0)) ->
  ∃s' a',l9 (bn fmt) raw cuts (cz ps a) s rs ts=.ok (s',a')/\s'++raw.drop a'=s++(a6 (bL (fM fmt) ps a rs ts)++tl)
 | [],ts,a,s,_,ha,_,_=>by
  refine⟨s,cz ps a,by rw[l9];intros;simp_all,?_⟩;have e:a6 ps=a6 (ps.take a)++a6 (ps.drop a):=by rw[<-iT,List.take_append_drop]
  rw[bL,po,e,List.append_assoc,show cz ps a=(a6 (ps.take a)).length from rfl,List.drop_left]
  intros;simp_all
 | r :: rs,[],a,s,_,_,hl,_=>by simp at hl
 | r :: rs,t :: ts,a,s,h,ha,hl,ht=>by
  rw[bV]at h
  split at h
  ·cases h
  rename_i hn
  obtain⟨p,q⟩:=r;simp only at hn h;obtain⟨p,rfl⟩:∃p':Nat,p=p':=⟨p.toNat,by omega⟩;obtain⟨q,rfl⟩:∃q':Nat,q=q':=⟨q.toNat,by omega⟩
  have hg:∀j,j<=ps.length->cuts.getD j 0=cz ps j:=λj hj=>by
   rw[hc,List.getD_eq_getElem?_getD,List.getElem?_map,List.getElem?_range (by omega)];rfl
  have Uf:=ht t (by simp)
  have htk:(raw.take (cz ps p)).drop (cz ps a)=a6 ((ps.take p).drop a):=by
   rw[po,List.take_append_of_le_length (Tj ps (by omega))];exact Mt ps (by omega)
  obtain⟨s',a',g1,g2⟩:=F3 po hc rs ts q (s++(a6 ((ps.take p).drop a)++(bn fmt t).1)) h (by omega) (by simpa using hl) λu hu=>ht u (by simp[hu])
  refine⟨s',a',?_,?_⟩
  ·rw[l9,if_neg (by rw[Uf];simp)];simp only[Int.toNat_natCast];rw[hg p (by omega),hg q (by omega),htk];exact g1
  rw[g2,bL,iT,iT,Mq,Uf];simp[List.append_assoc]
theorem wI:∀(ps op:List It) (c:Nat) {r:List It × Nat},fy ps op c=some r->∀p∈ps,aQ p.1=false->p.2.2=0
 | p :: ps,op,c,r,h,q,hq,hk=>by
  rw[fy]at h;cases hs:stepT op c p.1 p.2.1 with
  | none=>rw[hs]at h;cases h
  | some y=>
   obtain⟨i,yr,c2⟩:=y;rw[hs]at h;simp only at h
   split at h
   ·rename_i hi
    rcases List.mem_cons.1 hq with rfl|hq
    ·unfold stepT at hs;simp only[aQ,decide_eq_false_iff_not,not_or]at hk;rw[if_neg hk.2.1,if_neg hk.1,if_neg hk.2.2]at hs;simp only[Option.some.injEq,Prod.mk.injEq]at hs;rw[<-hi,<-hs.1]
    exact wI ps yr c2 h q hq hk
   cases h
theorem uA:∀(qs:List It),(∀q∈qs,q.1=1->q.2.1.length=1/\q.2.2=0)->aE qs=qs
 | [],_=>rfl
 | q :: qs,h=>by
  rw[pD,uA qs λx hx=>h x (by simp[hx])]
  split
  ·rename_i h1
   obtain⟨h2,h3⟩:=h q (by simp) h1;obtain⟨k,t,i⟩:=q;simp only at h1 h2 h3 |-;obtain⟨c,rfl⟩:=List.length_eq_one_iff.1 h2;subst h1 h3;rfl
  rfl
theorem Hf.ah{E:List UInt8->El}{G:Int->List UInt8->Prop}{raw:List UInt8}{R:gy}{ps:List (List UInt8 × It)}{tl:List UInt8}{c:Nat}(h:Hf E G raw R ps tl c):aE R.1=fJ ps/\aA R.1=ps.length/\Nm R.1:=by
 have h1:aE R.1=fJ ps:=by
  rw[h.items,uy];refine(uA (fJ ps) λq hq h1=>?_:aE []++aE (fJ ps)=fJ ps);obtain⟨p,hp,rfl⟩:=List.mem_map.1 hq;exact⟨h.one p hp h1,wI _ _ _ h.ok _ hq (by simp[aQ,h1])⟩
 refine⟨h1,?_,by rw[h.items];exact zR _ _ nQ⟩;rw[<-ep,h1];simp[fJ]
theorem I2{E:List UInt8->El}{G:Int->List UInt8->Prop}{fmt:Int}{raw:List UInt8}{R:gy}{ps:List (List UInt8 × It)}{tl:List UInt8}{c:Nat}(h:Hf E G raw R ps tl c){rs:List (Int × Int)}{ts:List (List It)}(ig:bV (aA R.1) 0 rs=true)(hl:rs.length=ts.length)(hen:∀t∈ts,bn fmt t=((aE t).flatMap (aL fmt),0))(hpc:∀t∈ts,∀p∈aE t,oN E (aL fmt p) p)
  {op:List It} {c':Nat} (hok:fy (aE (cK R.1 rs ts)) [] 0=some (op,c')) (Ib:(cK R.1 rs ts).length<=512) (xR:aA (cK R.1 rs ts)<=1024) :
  ∃s a,l9 (bn fmt) raw R.2.1 0 [] rs ts=.ok (s,a)/\s++raw.drop a=a6 (bL (fM fmt) ps 0 rs ts)++tl/\fJ (bL (fM fmt) ps 0 rs ts)=aE (cK R.1 rs ts)/\(∀p∈bL (fM fmt) ps 0 rs ts,p∈ps\/∃t∈ts,p∈fM fmt t)/\∃z d cuts,eP E (s++raw.drop a) 0 0 [] [] [] 0=jK z d (cK R.1 rs ts) cuts op:=by
 obtain⟨hi,hll,_⟩:=h.ah;rw[hll]at ig;obtain⟨s,a,g1,g2⟩:=F3 (fmt:=fmt) h.flat h.cuts rs ts 0 [] ig (Nat.zero_le _) hl hen;rw[FZ]at g1;rw[List.nil_append]at g2
 have hM:fJ (bL (fM fmt) ps 0 rs ts)=aE (cK R.1 rs ts):=by
  rw[DY,Gr,ku,hi,DY];congr 1
  funext t;exact Pb fmt t
 have hF:(fJ (bL (fM fmt) ps 0 rs ts)).foldl aK []=cK R.1 rs ts:=by rw[hM];exact lV (kP _ _ _) (kL (kP _ _ _))
 have hlen:(bL (fM fmt) ps 0 rs ts).length=aA (cK R.1 rs ts):=by rw[<-ep,<-hM];simp[fJ]
 have hmm:∀p∈bL (fM fmt) ps 0 rs ts,p∈ps\/∃t∈ts,p∈fM fmt t:=λp hp=>Gs rs ts 0 hp
 have hd:=oV (E:=E) (bL (fM fmt) ps 0 rs ts) tl 0 0 [] [] [] 0 (λp hp=>by
  rcases hmm p hp with hp|⟨t,ht,hp⟩
  ·exact h.piece p hp
  obtain⟨q,hq,rfl⟩:=List.mem_map.1 hp
  exact hpc t ht q hq) (by rw[hM];exact hok) (by rw[hF];exact Ib) (by simp;omega)
 rw[hF,h.tail]at hd;exact⟨s,a,g1,g2,hM,hmm,_,_,_,by rw[g2];exact hd⟩
theorem I0{g:List It}{op:List It}{c:Nat}(hn:Nm g)(h:fy (aE g) [] 0=some (op,c)):pF g=g:=by
 unfold pF;rw[(Ns h).2];exact hn
theorem pB:∀(ps op:List It) (c:Nat),(∀p∈ps,aQ p.1=false->p.2.2=0)->fy ps op c=fy (ps.filter λx=>aQ x.1) op c
 | [],op,c,_=>rfl
 | p :: ps,op,c,h=>by
  have hr:=λq hq=>h q (List.mem_cons_of_mem _ hq)
  cases hk:aQ p.1
  ·rw[List.filter_cons_of_neg (by simp[hk]),fy];have hs:stepT op c p.1 p.2.1=some (0,op,c):=by
    have hk2:=hk;simp only[aQ,decide_eq_false_iff_not,not_or]at hk2;unfold stepT;rw[if_neg hk2.2.1,if_neg hk2.1,if_neg hk2.2.2]
   rw[hs];simp only;rw[if_pos (h p (by simp) hk).symm];exact pB ps op c hr
  rw[List.filter_cons_of_pos (by simp[hk]),fy,fy];cases hs:stepT op c p.1 p.2.1 with
  | none=>rfl
  | some y=>
   obtain⟨i,yr,c2⟩:=y;simp only
   split
   ·exact pB ps yr c2 hr
   rfl
def mE(f:List It):List It:=f.filter λx=>aQ x.1
def b6(f:List It):List It:=f.filter λx=>decide (x.1≠1)
theorem jo(f:List It):mE (b6 f)=mE f:=by
 unfold mE b6;rw[List.filter_filter];refine List.filter_congr λx _=>?_
 by_cases h:x.1=1
 ·simp[aQ,h]
 simp[h]
theorem dX:∀f:List It,b6 (aE f)=b6 f
 | []=>rfl
 | x :: f=>by
  have e:b6 (aE (x :: f))=b6 (if x.1=1 then x.2.1.map (λc=>((1:Int),[c],(0:Int)))else[x])++b6 (aE f):=by rw[pD];unfold b6;rw[List.filter_append]
  rw[e,dX f]
  split
  ·rename_i h
   have e1:b6 (x.2.1.map (λc=>((1:Int),[c],(0:Int))))=[]:=by
    unfold b6;rw[List.filter_eq_nil_iff];intro y hy;obtain⟨c,_,rfl⟩:=List.mem_map.1 hy;simp
   rw[e1];unfold b6;rw[List.filter_cons_of_neg (by simp[h])];rfl
  rename_i h
  unfold b6;rw[List.filter_cons_of_pos (by simp[h]),List.filter_cons_of_pos (by simp[h])];rfl
theorem EZ(f:List It):mE (aE f)=mE f:=by rw[<-jo,dX,jo]
def Fits(f:List It):List (Int × Int)->List (List It)->Prop
 | r :: rs,t :: ts=>b6 t=b6 (aR r.1.toNat r.2.toNat 0 f)/\Fits f rs ts
 | [],[]=>True
 | _,_=>False
theorem Fits.len{f:List It}:∀ {rs:List (Int × Int)} {ts:List (List It)},Fits f rs ts->rs.length=ts.length
 | [],[],_=>rfl
 | r :: rs,t :: ts,h=>by simpa using Fits.len h.2
 | [],_ :: _,h=>h.elim
 | _ :: _,[],h=>h.elim
theorem kp(a b:List It):b6 (a++b)=b6 a++b6 b:=by unfold b6;rw[List.filter_append]
theorem D9(f:List It):∀(rs:List (Int × Int)) (ts:List (List It)) (a:Nat),Fits f rs ts->bV (aA f) a rs=true->b6 (bL aE (aE f) a rs ts)=b6 ((aE f).drop a)
 | [],[],a,_,_=>by simp[bL]
 | [],_ :: _,a,h,_=>h.elim
 | _ :: _,[],a,h,_=>h.elim
 | r :: rs,t :: ts,a,h,has=>by
  rw[bV]at has
  split at has
  ·cases has
  rename_i hn
  obtain⟨p,q⟩:=r;simp only at hn has;obtain⟨p,rfl⟩:∃p':Nat,p=p':=⟨p.toNat,by omega⟩;obtain⟨q,rfl⟩:∃q':Nat,q=q':=⟨q.toNat,by omega⟩;obtain⟨h1,h2⟩:=h;simp only[Int.toNat_natCast]at h1;rw[bL,kp,kp,D9 f rs ts _ h2 (by simpa using has)];simp only[Int.toNat_natCast]
  have et:b6 (aE t)=b6 (((aE f).take q).drop p):=by
   rw[dX,h1,<-dX,iu,Nat.sub_zero,Nat.sub_zero]
  rw[et,<-kp,<-kp];congr 1
  have e1:(aE f).drop a=((aE f).take p).drop a++(aE f).drop p:=by
   conv=>lhs;rw[<-List.take_append_drop p (aE f)]
   rw[List.drop_append_of_le_length (by rw[List.length_take,ep];omega)]
  have e2:(aE f).drop p=((aE f).take q).drop p++(aE f).drop q:=by
   conv=>lhs;rw[<-List.take_append_drop q (aE f)]
   rw[List.drop_append_of_le_length (by rw[List.length_take,ep];omega)]
  rw[e1,e2]
theorem uF{f:List It}{rs:List (Int × Int)}{ts:List (List It)}(h:Fits f rs ts)(has:bV (aA f) 0 rs=true):b6 (cK f rs ts)=b6 f:=by
 rw[<-dX,ku,D9 f rs ts 0 h has,List.drop_zero,dX]
theorem Ac{f:List It}(h:∀x∈b6 f,aQ x.1=false->x.2.2=0):∀p∈aE f,aQ p.1=false->p.2.2=0:=by
 intro p hp hk
 by_cases h1:p.1=1
 ·unfold aE at hp;obtain⟨x,hx,hp⟩:=List.mem_flatMap.1 hp
  split at hp
  ·obtain⟨c,_,rfl⟩:=List.mem_map.1 hp;rfl
  rename_i h2
  simp at hp;subst hp;exact absurd h1 h2
 refine h p ?_ hk;rw[<-dX];exact List.mem_filter.2 ⟨hp,by simpa using h1⟩
theorem PT{f:List It}{rs:List (Int × Int)}{ts:List (List It)}{op:List It}{c:Nat}(h:Fits f rs ts)(has:bV (aA f) 0 rs=true)(hz:∀x∈b6 f,aQ x.1=false->x.2.2=0)(hok:fy (aE f) [] 0=some (op,c)):fy (aE (cK f rs ts)) [] 0=some (op,c):=by
 have e1:=uF h has;rw[pB _ _ _ (Ac (by rw[e1];exact hz))];rw[pB _ _ _ (Ac hz)]at hok;have e2:∀g:List It,(aE g).filter (λx=>aQ x.1)=mE (b6 g):=λg=>by rw[jo,<-EZ];rfl
 rw[e2,e1,<-e2];exact hok
end Go.Proofs.YthoemdibbldndaaGreatDoor.St
namespace Go.Proofs.YthoemdibbldndaaGreatDoor.St
theorem kq(f:List It):eZ f ↔ eZ (mE f):=by
 unfold eZ mE;rw[List.pairwise_filter];constructor
 ·intro h;exact h.imp fun {a b} h _ _=>h
 intro h;refine h.imp fun {a b} h ht=>?_
 cases ha:aQ a.1
 ·exact C2 ha
 exact h ha ht ht
theorem Jc(a b:Nat)(f:List It):(b6 (aR a b 0 f)).Sublist (b6 f):=by
 rw[<-dX,iu,<-dX f];exact((List.drop_sublist _ _).trans (List.take_sublist _ _)).filter _
def GI(fmt:Int)(x:It):Prop:=(x.1=5/\aF x.2.1=true/\x.2.2=0)\/(fmt=1/\(((x.1=2\/x.1=4)/\aM x.2.1=true/\bE (nameOf x.2.1)=false/\1<=x.2.2/\x.2.2<=999)\/(x.1=3/\aF x.2.1=true/\bE x.2.1=false/\1<=x.2.2/\x.2.2<=999)))
structure jq (fmt:Int) (t:List It):Prop where
 nm:Nm t
 items:∀x∈b6 t,GI fmt x
 bH:eZ t
theorem D8{t:List It}{x:It}(hx:x∈t):x.1=1\/x∈b6 t:=by
 by_cases h:x.1=1
 ·exact .inl h
 exact .inr (List.mem_filter.2 ⟨hx,by simpa using h⟩)
theorem jq.Ow{fmt:Int}{t:List It}(h:jq fmt t):∀x∈t,ol x:=λx hx=>by
 rcases D8 hx with h1|h1
 ·exact .inl ⟨h1,kL h.nm x hx h1⟩
 rcases h.items x h1 with g|⟨_,g|g⟩
 ·exact .inr (.inl g)
 ·exact .inr (.inr (.inl g))
 exact .inr (.inr (.inr g))
theorem jq.Sr{fmt:Int}{t:List It}(h:jq fmt t)(h1:fmt≠1):∀x∈t,Mb x:=λx hx=>by
 rcases D8 hx with h2|h2
 ·exact⟨kL h.nm x hx h2,.inl h2⟩
 rcases h.items x h2 with⟨g1,g2,g3⟩|⟨g,_⟩
 ·exact⟨g3,.inr ⟨g1,g2⟩⟩
 exact absurd g h1
theorem jq.enc{fmt:Int}{t:List It}(h:jq fmt t)(h1:t.length<=512)(h2:aA t<=1024):bn fmt t=((aE t).flatMap (aL fmt),0):=by
 rw[<-O9]
 by_cases hf:fmt=1
 ·subst hf;exact O8 (uw h.nm) h.Ow h.bH h1 h2
 exact QZ fmt (uw h.nm) (h.Sr hf) h1 h2
theorem jq.IS{fmt:Int}{t:List It}(h:jq fmt t):∀p∈aE t,tI p/\(fmt≠1->oO p):=by
 intro p hp;refine⟨Nk h.Ow p hp,λhf=>?_⟩;unfold aE at hp;obtain⟨x,hx,hp⟩:=List.mem_flatMap.1 hp;obtain⟨h0,g⟩:=h.Sr hf x hx
 split at hp
 ·obtain⟨c,_,rfl⟩:=List.mem_map.1 hp;exact .inl ⟨c,rfl⟩
 rename_i h1
 simp at hp;subst hp;rcases g with g|⟨g1,g2⟩
 ·exact absurd g h1
 obtain⟨k,u,i⟩:=p;simp only at h0 g1 g2;subst h0 g1;exact .inr ⟨u,rfl,g2⟩
theorem MS{fmt:Int}{f t:List It}{a b:Nat}(h:jq fmt f)(hn:Nm t)(ht:b6 t=b6 (aR a b 0 f)):jq fmt t:=by
 have hs:(b6 t).Sublist (b6 f):=by rw[ht];exact Jc a b f
 refine⟨hn,λx hx=>h.items x (hs.subset hx),?_⟩;rw[kq,<-jo];have:=(kq f).1 h.bH
 rw[<-jo]at this;exact List.Pairwise.sublist (hs.filter _) this
theorem zu:∀p:It,oO p->j5 ch (aL 2 p) p:=by
 rintro p (⟨c,rfl⟩|⟨t,rfl,ht⟩)
 ·have e:aL 2 (1,[c],0)=bl 2 c:=by simp[aL]
  rw[e];exact⟨λh0=>by have:=(lu 2 c).1;rw[h0]at this;simp at this,by simp,λrest=>Nv c rest⟩
 have e:aL 2 (5,t,0)=123 :: (t++[125]):=by simp[aL]
 rw[e];exact⟨by simp,by simp,λrest=>EG ht rest⟩
theorem tV:∀p:It,oO p->j5 cx (aL 3 p) p:=by
 rintro p (⟨c,rfl⟩|⟨t,rfl,ht⟩)
 ·have e:aL 3 (1,[c],0)=bl 3 c:=by simp[aL]
  rw[e];refine⟨λh0=>by have:=(lu 3 c).1;rw[h0]at this;simp at this,by simp,λrest=>?_⟩
  by_cases rl:c.toNat=34
  ·obtain rfl:=iy rl;rfl
  by_cases cU:c.toNat=123
  ·obtain rfl:=iy cU;rfl
  have e2:bl 3 c=[c]:=by unfold bl;simp[rl,cU]
  rw[e2]
  show cx (c :: rest)=_
  rw[cx,if_neg rl,if_neg cU];rfl
 have e:aL 3 (5,t,0)=123 :: (t++[125]):=by simp[aL]
 rw[e];refine⟨by simp,by simp,λrest=>?_⟩;have e2:123 :: (t++[125])++rest=123 :: (t++125 :: rest):=by simp
 obtain⟨c,r,hc,hc2⟩:=Px ht
 have hp:([123,123]:List UInt8).isPrefixOf (123 :: (t++125 :: rest))=false:=by
  rw[hc];simp only[List.cons_append,List.isPrefixOf]
  have:((123:UInt8)==c)=false:=by
   refine Bool.eq_false_iff.2 λe=>hc2 ?_
   rw[<-eq_of_beq e];rfl
  simp[this]
 rw[e2,cx,if_neg (by decide),if_pos (by decide),hp,BS ht];simp
def FG(fmt:Int):List UInt8->El:=if fmt=1 then b7 else if fmt=2 then ch else cx
def Cv(fmt:Int)(k:Int)(t:List UInt8):Prop:=k=1\/(k=5/\aF t=true)\/(fmt=1/\(((k=2\/k=4)/\aM t=true/\bE (nameOf t)=false)\/(k=3/\aF t=true/\bE t=false)))
end Go.Proofs.YthoemdibbldndaaGreatDoor.St
namespace Go.Proofs.YthoemdibbldndaaGreatDoor.St
theorem vj(p:UInt8->Bool):∀r:List UInt8,(r.takeWhile p).length<r.length->∃x r',r=r.takeWhile p++x :: r'/\p x=false
 | [],h=>by simp at h
 | c :: r,h=>by
  by_cases hc:p c=true
  ·rw[List.takeWhile_cons_of_pos hc]at h |-;obtain⟨x,r',h1,h2⟩:=vj p r (by simpa using h);exact⟨x,r',by rw[List.cons_append,<-h1],h2⟩
  exact⟨c,r,by rw[List.takeWhile_cons_of_neg hc];rfl,by simpa using hc⟩
theorem E5(p:UInt8->Bool):∀(r:List UInt8),∀c∈r.takeWhile p,p c=true
 | c :: r,d,h=>by
  by_cases hc:p c=true
  ·rw[List.takeWhile_cons_of_pos hc]at h;rcases List.mem_cons.1 h with rfl|h
   ·exact hc
   exact E5 p r d h
  rw[List.takeWhile_cons_of_neg hc]at h;cases h
theorem uM{c:UInt8}{r:List UInt8}{x:List UInt8 × Nat}(hc:c.toNat=123)(h:cR (c :: r)=some x):(c :: r).take x.2=123 :: (x.1++[125])/\aF x.1=true/\x.2=x.1.length+2:=by
 unfold cR at h;simp only[List.drop_succ_cons,List.drop_zero]at h
 split at h
 ·rename_i hq
  rw[Bool.and_eq_true,decide_eq_true_eq]at hq;simp only[Option.some.injEq]at h;subst h;obtain⟨y,r',h1,h2⟩:=vj (λc=>decide (c.toNat≠125)) r (by simpa using hq.1);have hy:=iy (show y.toNat=125 by simpa using h2);have hc2:=iy hc;refine⟨?_,hq.2,rfl⟩;generalize r.takeWhile (λc=>decide (c.toNat≠125))=u at h1;subst hy hc2;rw[h1];have e:UInt8.ofNat 123 :: (u++UInt8.ofNat 125 :: r')=(UInt8.ofNat 123 :: (u++[UInt8.ofNat 125]))++r':=by simp
  rw[e];exact List.take_left' (by simp)
 cases h
theorem NH{c:UInt8}{r t:List UInt8}{k:Int}{n:Nat}(hc:c.toNat=60)(h:gh (c :: r)=some (k,t,n)):∃u,(c :: r).take n=[60]++u++[62]/\(∀d∈u,d.toNat≠62)/\eX u=some (k,t)/\n=u.length+2:=by
 unfold gh at h
 split at h
 ·rename_i hl
  cases hq:eX (df (c :: r))with
  | none=>rw[hq]at h;cases h
  | some x=>
   obtain⟨k',t'⟩:=x;rw[hq]at h;simp only[Option.map_some,Option.some.injEq,Prod.mk.injEq]at h;obtain⟨rfl,rfl,rfl⟩:=h;refine⟨df (c :: r),?_,λd hd=>?_,hq,rfl⟩
   ·have hin:df (c :: r)=r.takeWhile (λc=>decide (c.toNat≠62)):=rfl;rw[hin]at hl |-;obtain⟨y,r',h1,h2⟩:=vj (λc=>decide (c.toNat≠62)) r (by simpa using hl);have hy:=iy (show y.toNat=62 by simpa using h2);have hc2:=iy hc;generalize r.takeWhile (λc=>decide (c.toNat≠62))=u at h1;subst hy hc2;rw[h1];have e:UInt8.ofNat 60 :: (u++UInt8.ofNat 62 :: r')=([60]++u++[62])++r':=by simp
    rw[e];exact List.take_left' (by simp)
   have:=E5 _ _ d hd
   simpa using this
 cases h
theorem Es{m l:List UInt8}(h:m.isPrefixOf l=true):l.take m.length=m:=(List.prefix_iff_eq_take.1 (List.isPrefixOf_iff_prefix.1 h)).symm
theorem LH{u t:List UInt8}{k:Int}(h:eX u=some (k,t))(hb:bE (nameOf t)=false):Cv 1 k t:=by
 unfold eX at h
 split at h
 ·split at h
  ·rename_i hn
   simp only[Option.some.injEq,Prod.mk.injEq]at h;obtain⟨rfl,rfl⟩:=h;rw[qN hn]at hb;exact .inr (.inr ⟨rfl,.inr ⟨rfl,hn,hb⟩⟩)
  cases h
 split at h
 ·split at h
  ·rename_i hn
   simp only[Option.some.injEq,Prod.mk.injEq]at h;obtain⟨rfl,rfl⟩:=h;exact .inr (.inr ⟨rfl,.inl ⟨.inr rfl,hn,hb⟩⟩)
  cases h
 split at h
 ·rename_i hn
  simp only[Option.some.injEq,Prod.mk.injEq]at h;obtain⟨rfl,rfl⟩:=h;exact .inr (.inr ⟨rfl,.inl ⟨.inl rfl,hn,hb⟩⟩)
 cases h
theorem M6:Ce b7 (Cv 1):=by
 refine⟨Gp,λl k t n h hk=>?_,λl t n h=>?_⟩
 ·match l,h with
  | c :: r,h=>
   by_cases lR:c.toNat=60
   ·rw[oD lR]at h;unfold uv at h;cases hq:gh (c :: r)with
    | none=>rw[hq]at h;cases h
    | some x=>
     obtain⟨k',t',n'⟩:=x;rw[hq]at h;simp only at h
     split at h
     ·cases h
     rename_i hb
     simp only[Option.some.injEq,Prod.mk.injEq]at h;obtain⟨rfl,rfl,rfl⟩:=h;obtain⟨u,g1,g2,g3,g4⟩:=NH lR hq;have hb':bE (nameOf t')=false:=by simpa using hb
     refine⟨LH g3 hb',λrest=>?_⟩;rw[g1,ye g2 g3 hb',g4]
   by_cases qb:c.toNat=38
   ·rw[iZ qb]at h;unfold sG at h
    repeat' split at h
    all_goals first|(simp only[reduceCtorEq]at h;done)|skip
    all_goals
     rename_i hp
     simp only[Option.some.injEq,Prod.mk.injEq]at h;obtain⟨rfl,rfl,rfl⟩:=h;have:=Es hp
     simp only[List.length_cons,List.length_nil,Nat.zero_add,Nat.reduceAdd]at this;refine⟨.inl rfl,λrest=>?_⟩;rw[this]
     show b7 (38 :: _)=_
     rw[iZ (by rfl)];rfl
   by_cases cU:c.toNat=123
   ·rw[lE cU]at h;cases hq:cR (c :: r)with
    | none=>rw[hq]at h;cases h
    | some x=>
     rw[hq]at h;simp only[Option.map_some,Option.some.injEq,Prod.mk.injEq]at h;obtain⟨rfl,rfl,rfl⟩:=h;obtain⟨g1,g2,g3⟩:=uM cU hq;refine⟨.inr (.inl ⟨rfl,g2⟩),λrest=>?_⟩;rw[g1]
     show b7 (123 :: _)=_
     have:=yJ (rest:=rest) g2
     rw[lE (by rfl)];have e:([123]++x.1++[125]++rest:List UInt8)=123 :: (x.1++[125]++rest):=by simp
     rw[e]at this;have this:cR (123 :: (x.1++[125]).append rest)=_:=this;rw[this,g3];rfl
   rw[kl lR qb cU]at h;simp only[Option.some.injEq,Prod.mk.injEq]at h;obtain⟨rfl,rfl,rfl⟩:=h;exact⟨.inl rfl,λrest=>kl lR qb cU⟩
 have:=(px h).1
 omega
theorem uH:qA ch:=λl k t n h=>by
 obtain⟨_,h1,h2,h3⟩:=jd h;refine⟨h1,h2,h3,?_⟩;rintro rfl
 match l,h with
 | c :: r,h=>
  by_cases h10:c.toNat=10
  ·rw[rG h10]at h;cases h
  by_cases io:c.toNat=92
  ·match r,h with
   | [],h=>rw[oG io]at h;cases h
   | d :: r',h=>
    by_cases hd:d.toNat=10
    ·rw[kw io hd]at h;simp at h
    rw[np io hd]at h;cases he:mV d with
    | none=>rw[he]at h;cases h
    | some e=>
     rw[he]at h;simp only[Option.map_some,Option.some.injEq,Prod.mk.injEq]at h;obtain⟨_,rfl,_⟩:=h;rfl
  by_cases cU:c.toNat=123
  ·rw[nl cU]at h;cases hq:cR (c :: r)with
   | none=>rw[hq]at h;cases h
   | some x=>rw[hq]at h;simp at h
  rw[kx h10 io cU]at h;simp only[Option.some.injEq,Prod.mk.injEq]at h;obtain⟨_,rfl,_⟩:=h;rfl
theorem PU:Ce ch (Cv 2):=by
 refine⟨uH,λl k t n h hk=>?_,λl t n h c r r' hd=>?_⟩
 ·match l,h with
  | c :: r,h=>
   by_cases h10:c.toNat=10
   ·rw[rG h10]at h;cases h
   by_cases io:c.toNat=92
   ·match r,h with
    | [],h=>rw[oG io]at h;cases h
    | d :: r',h=>
     by_cases hd:d.toNat=10
     ·rw[kw io hd]at h;simp only[Option.some.injEq,Prod.mk.injEq]at h;exact absurd h.1.symm hk
     rw[np io hd]at h;cases he:mV d with
     | none=>rw[he]at h;cases h
     | some e=>
      rw[he]at h;simp only[Option.map_some,Option.some.injEq,Prod.mk.injEq]at h;obtain⟨rfl,rfl,rfl⟩:=h;refine⟨.inl rfl,λrest=>?_⟩
      show ch (c :: d :: rest)=_
      rw[np io hd,he];rfl
   by_cases cU:c.toNat=123
   ·rw[nl cU]at h;cases hq:cR (c :: r)with
    | none=>rw[hq]at h;cases h
    | some x=>
     rw[hq]at h;simp only[Option.map_some,Option.some.injEq,Prod.mk.injEq]at h;obtain⟨rfl,rfl,rfl⟩:=h;obtain⟨g1,g2,g3⟩:=uM cU hq;refine⟨.inr (.inl ⟨rfl,g2⟩),λrest=>?_⟩;rw[g1,EG g2,g3];simp
   rw[kx h10 io cU]at h;simp only[Option.some.injEq,Prod.mk.injEq]at h;obtain⟨rfl,rfl,rfl⟩:=h;exact⟨.inl rfl,λrest=>kx h10 io cU⟩
 match l,h with
 | c1 :: r1,h=>
  by_cases h10:c1.toNat=10
  ·rw[rG h10]at h;cases h
  by_cases io:c1.toNat=92
  ·match r1,h with
   | [],h=>rw[oG io]at h;cases h
   | d :: r2,h=>
    by_cases hd2:d.toNat=10
    ·rw[kw io hd2]at h;simp only[Option.some.injEq,Prod.mk.injEq]at h;obtain⟨_,rfl,rfl⟩:=h
     have hdr:r2.drop (dV r2)=c :: r:=by
      rw[Nat.add_comm]at hd;simpa using hd
     have hlt:(r2.takeWhile fW).length<r2.length:=by
      have:=congrArg List.length hdr
      simp[dV]at this;omega
     obtain⟨y,r3,g1,g2⟩:=vj fW r2 hlt;have n8:dV r2=(r2.takeWhile fW).length:=rfl;have KL:=E5 fW r2;generalize r2.takeWhile fW=u at g1 n8 hlt KL
     have hy:y=c:=by
      rw[n8,g1,List.drop_left]at hdr;exact(List.cons.inj hdr).1
     subst hy
     have ht:(c1 :: d :: r2).take (2+dV r2)=c1 :: d :: u:=by
      rw[Nat.add_comm,List.take_succ_cons,List.take_succ_cons,n8];congr 2;rw[g1,List.take_left]
     rw[ht]
     show ch (c1 :: d :: (u++y :: r'))=_
     rw[kw io hd2,n8]
     have:dV (u++y :: r')=u.length:=by
      unfold dV;rw[List.takeWhile_append_of_pos KL,List.takeWhile_cons_of_neg (by simp[g2]),List.append_nil]
     rw[this]
    rw[np io hd2]at h;cases he:mV d with
    | none=>rw[he]at h;cases h
    | some e=>rw[he]at h;simp at h
  by_cases cU:c1.toNat=123
  ·rw[nl cU]at h;cases hq:cR (c1 :: r1)with
   | none=>rw[hq]at h;cases h
   | some x=>rw[hq]at h;simp at h
  rw[kx h10 io cU]at h;simp at h
theorem nz{c:UInt8}{r:List UInt8}{k:Int}{t:List UInt8}{n:Nat}(h:cx (c :: r)=some (k,t,n)):(k=1/\t.length=1/\1<=n/\n<=(c :: r).length/\∀rest,cx ((c :: r).take n++rest)=some (k,t,n))\/(k=5/\aF t=true/\n=t.length+2/\n<=(c :: r).length/\∀rest,cx ((c :: r).take n++rest)=some (k,t,n)):=by
 rw[cx]at h
 split at h
 ·rename_i rl
  split at h
  ·rename_i hp
   have hl:=(List.isPrefixOf_iff_prefix.1 hp).length_le;have ht:=Es hp;simp only[Option.some.injEq,Prod.mk.injEq]at h;obtain⟨rfl,rfl,rfl⟩:=h;refine .inl ⟨rfl,rfl,by omega,by simpa using hl,λrest=>?_⟩;simp only[List.length_cons,List.length_nil,Nat.zero_add,Nat.reduceAdd]at ht;rw[ht];rfl
  cases h
 split at h
 ·rename_i rl cU
  split at h
  ·rename_i hp
   have hl:=(List.isPrefixOf_iff_prefix.1 hp).length_le;have ht:=Es hp;simp only[Option.some.injEq,Prod.mk.injEq]at h;obtain⟨rfl,rfl,rfl⟩:=h;refine .inl ⟨rfl,rfl,by omega,by simpa using hl,λrest=>?_⟩;simp only[List.length_cons,List.length_nil,Nat.zero_add,Nat.reduceAdd]at ht;rw[ht];rfl
  cases hq:cR (c :: r)with
  | none=>rw[hq]at h;cases h
  | some x=>
   rw[hq]at h;simp only[Option.map_some,Option.some.injEq,Prod.mk.injEq]at h;obtain⟨rfl,rfl,rfl⟩:=h;obtain⟨g1,g2,g3⟩:=uM cU hq;refine .inr ⟨rfl,g2,g3,(EV hq).2.1,λrest=>?_⟩;have hp2:=(tV (5,x.1,0) (.inr ⟨x.1,rfl,g2⟩)).2.2 rest;have e:aL 3 (5,x.1,0)=123 :: (x.1++[125]):=by simp[aL]
   rw[e]at hp2;rw[g1,hp2,g3];simp
 rename_i rl cU
 simp only[Option.some.injEq,Prod.mk.injEq]at h;obtain⟨rfl,rfl,rfl⟩:=h;refine .inl ⟨rfl,rfl,by omega,by simp,λrest=>?_⟩
 show cx (c :: rest)=_
 rw[cx,if_neg rl,if_neg cU]
theorem Lv:Ce cx (Cv 3):=by
 refine⟨λl k t n h=>?_,λl k t n h hk=>?_,λl t n h=>?_⟩
 ·match l,h with
  | c :: r,h=>
   rcases nz h with⟨rfl,h2,h3,h4,_⟩|⟨rfl,h2,h3,h4,_⟩
   ·exact⟨h3,h4,by omega,λ_=>h2⟩
   exact⟨by omega,h4,by omega,λe=>absurd e (by decide)⟩
 ·match l,h with
  | c :: r,h=>
   rcases nz h with⟨rfl,h2,h3,h4,h5⟩|⟨rfl,h2,h3,h4,h5⟩
   ·exact⟨.inl rfl,h5⟩
   exact⟨.inr (.inl ⟨rfl,h2⟩),h5⟩
 match l,h with
 | c :: r,h=>
  rcases nz h with⟨h1,_⟩|⟨h1,_⟩
  ·exact absurd h1 (by decide)
  exact absurd h1 (by decide)
theorem zv{fmt:Int}(h:fmt=1\/fmt=2\/fmt=3):Ce (FG fmt) (Cv fmt):=by
 rcases h with rfl|rfl|rfl
 ·exact M6
 ·exact PU
 exact Lv
theorem jq.piece{fmt:Int}(hk:fmt=1\/fmt=2\/fmt=3){t:List It}(h:jq fmt t):∀p∈aE t,oN (FG fmt) (aL fmt p) p:=by
 intro p hp;obtain⟨h1,h2⟩:=h.IS p hp;have hE:=(zv hk).ok.QY;rcases hk with rfl|rfl|rfl
 ·exact(yj h1).BZ hE
 ·exact(zu p (h2 (by decide))).BZ hE
 exact(tV p (h2 (by decide))).BZ hE
end Go.Proofs.YthoemdibbldndaaGreatDoor.St
