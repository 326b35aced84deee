/- Plain: a slice of one position, and its encoding. -/
import Derived.Test.YthoemdibbldndaaGreatDoorGK
set_option linter.all false
namespace Go.Proofs.YthoemdibbldndaaGreatDoor.St
theorem lm(f:List It):(aN f).length=ay f:=by
 induction f with
 | nil=>rfl
 | cons x f ih=>
  have e:aN (x :: f)=(if x.1=1 then x.2.1.map (λc=>((1:Int),[c],(0:Int)))else[x])++aN f:=by simp[aN]
  rw[e,List.length_append,ih];simp only[ay,List.map_cons,List.sum_cons];unfold a7
  split<;>simp
theorem yX(i:Nat):∀(f:List It) (at':Nat),(i<at'\/at'+ay f<=i)->br i (i+1) at' f=[]
 | [],_,_=>rfl
 | x :: f,at',h=>by
  have hl:ay (x :: f)=a7 x+ay f:=by simp[ay]
  rw[hl]at h;rw[br,yX i f (at'+a7 x) (by omega),List.append_nil];unfold a7 at h
  split
  ·rename_i h1
   rw[if_pos h1]at h;rw[if_neg (by omega)]
  rename_i h1
  rw[if_neg h1]at h;rw[if_neg (by omega)]
theorem yW(i:Nat):∀(f:List It) (at':Nat),(∀x∈f,x.1=1->x.2.2=0)->at'<=i->(h:i-at'<(aN f).length)->br i (i+1) at' f=[(aN f)[i-at']]
 | [],_,_,_,h=>by simp[aN]at h
 | x :: f,at',h0,hi,h=>by
  have e:aN (x :: f)=(if x.1=1 then x.2.1.map (λc=>((1:Int),[c],(0:Int)))else[x])++aN f:=by simp[aN]
  have hw:(if x.1=1 then x.2.1.map (λc=>((1:Int),[c],(0:Int)))else[x]).length=a7 x:=by unfold a7;split<;>simp
  rw[br]
  by_cases hlt:i-at'<a7 x
  ·rw[yX i f (at'+a7 x) (by omega),List.append_nil];have hg:(aN (x :: f))[i-at']?=(if x.1=1 then x.2.1.map (λc=>((1:Int),[c],(0:Int)))else[x])[i-at']?:=by rw[e,List.getElem?_append_left (by omega)]
   have hg2:(aN (x :: f))[i-at']?=some (aN (x :: f))[i-at']:=List.getElem?_eq_getElem h;rw[hg2]at hg;unfold a7 at hlt
   split at hg
   ·rename_i h1
    rw[if_pos h1]at hlt |-;rw[if_pos (by omega),show max i at' - at'=i-at' by omega,show min (i+1) (at'+x.2.1.length)-at'=i-at'+1 by omega];have hx:=h0 x (by simp) h1;rw[hx,List.take_add_one,List.getElem?_eq_getElem hlt,List.drop_append_of_le_length (by simp;omega),List.drop_of_length_le (by simp;omega)];rw[List.getElem?_map,List.getElem?_eq_getElem hlt]at hg;simp only[Option.map_some,Option.some.injEq]at hg;rw[hg];rfl
   rename_i h1
   rw[if_neg h1]at hlt |-;rw[if_pos (by omega)];have hz:i-at'=0:=by omega
   simp only[hz]at hg |-;simp at hg;rw[hg]
  have hlen:=h;rw[e,List.length_append,hw]at hlen;have ih:=yW i f (at'+a7 x) (λy hy=>h0 y (by simp[hy])) (by omega) (by omega);have hg:(aN (x :: f))[i-at']?=(aN f)[i-(at'+a7 x)]?:=by rw[e,List.getElem?_append_right (by omega),hw];congr 1;omega
  have hg2:(aN (x :: f))[i-at']?=some (aN (x :: f))[i-at']:=List.getElem?_eq_getElem h;have hg3:(aN f)[i-(at'+a7 x)]?=some ((aN f)[i-(at'+a7 x)]'(by omega)):=List.getElem?_eq_getElem (by omega);rw[hg2,hg3]at hg;rw[ih,Option.some.inj hg]
  have hn:(if x.1=1 then(if max i at' - at'<min (i+1) (at'+x.2.1.length)-at' then[((1:Int),(x.2.1.take (min (i+1) (at'+x.2.1.length)-at')).drop (max i at' - at'),x.2.2)]else[])else(if i<=at'/\at'<i+1 then[x]else[]))=[]:=by
   unfold a7 at hlt
   split
   ·rename_i h1
    rw[if_pos h1]at hlt;rw[if_neg (by omega)]
   rename_i h1
   rw[if_neg h1]at hlt;rw[if_neg (by omega)]
  rw[hn];rfl
def n3(p:It):Prop:=(∃c,p=(1,[c],0))\/(∃t,p=(5,t,0)/\aB t=true)
theorem q6{t:List UInt8}(h:aB t=true):t.length<=24/\t≠[]:=by
 cases t with
 | nil=>cases h
 | cons c r=>
  rw[aB]at h;simp only[Bool.and_eq_true,decide_eq_true_eq]at h;exact⟨by simp;omega,by simp⟩
end Go.Proofs.YthoemdibbldndaaGreatDoor.St
namespace Go.Proofs.YthoemdibbldndaaGreatDoor
end Go.Proofs.YthoemdibbldndaaGreatDoor
namespace Go.Proofs.YthoemdibbldndaaGreatDoor
open Go.RowKit
end Go.Proofs.YthoemdibbldndaaGreatDoor
namespace Go.Proofs.YthoemdibbldndaaGreatDoor.St
def rI:Bool->List It->Prop
 | _,[]=>True
 | p,x :: r=>(x.1=1->x.2.1≠[]/\x.2.2=0/\p=false)/\rI (decide (x.1=1)) r
def mD(p:Bool)(f:List It):Bool:=match f.getLast? with|none=>p|some y=>decide (y.1=1)
theorem Fq(p:Bool)(x:It)(f:List It):mD p (x :: f)=mD (decide (x.1=1)) f:=by
 unfold mD;cases f with
 | nil=>rfl
 | cons y r=>
  rw[List.getLast?_cons_cons];cases h:(y :: r).getLast? with
  | none=>simp at h
  | some z=>rfl
theorem BB{x:It}:∀(f:List It) (p:Bool),rI p f->(x.1=1->x.2.1≠[]/\x.2.2=0/\mD p f=false)->rI p (f++[x])
 | [],p,_,h=>⟨h,trivial⟩
 | y :: f,p,hf,h=>⟨hf.1,BB f _ hf.2 (by rw[Fq]at h;exact h)⟩
theorem BF:∀(n:Nat) (f:List It),f.length=n->Nm f->rI false f
 | 0,f,hn,_=>by rw[List.eq_nil_of_length_eq_zero hn];trivial
 | n+1,f,hn,h=>by
  rcases cG f with rfl|⟨a,b,rfl⟩
  ·trivial
  obtain⟨h1,h2⟩:=DK h;refine BB a false (BF n a (by simpa using hn) h1) λhb=>⟨(h2 hb).1,(h2 hb).2.1,?_⟩
  unfold mD;cases hg:a.getLast? with
  | none=>rfl
  | some z=>exact decide_eq_false ((h2 hb).2.2 z hg)
theorem BE{f:List It}(h:Nm f):rI false f:=BF _ f rfl h
def nL(b:List It):Bool:=mD false b
theorem yC:∀(f b:List It),rI (nL b) f->(∀x∈f,x.1=1\/(x.1=5/\aB x.2.1=true/\x.2.2=0))->cI b f=0
 | [],_,_,_=>rfl
 | x :: f,b,h,hg=>by
  have hc:bf b x=0:=by
   rcases hg x (by simp)with h1|⟨h1,h2,h3⟩
   ·obtain⟨q1,q2,q3⟩:=h.1 h1;unfold bf;rw[if_pos h1,if_neg];rintro (e|e|⟨y,hy,hy1⟩)
    ·exact q1 e
    ·exact e q2
    unfold nL mD at q3;rw[hy]at q3;simp[hy1]at q3
   unfold bf;rw[if_neg (by rw[h1];decide),if_pos h1,if_pos ⟨h2,h3⟩]
  rw[cI,if_neg (by simp[hc])];refine yC f (b++[x]) ?_ λy hy=>hg y (by simp[hy])
  have:nL (b++[x])=decide (x.1=1):=by unfold nL mD;simp
  rw[this];exact h.2
def Jo(x:It):Prop:=x.2.2=0/\(x.1=1\/(x.1=5/\aB x.2.1=true))
theorem KV{f:List It}(h:rI false f)(hg:∀x∈f,Jo x)(h1:f.length<=512)(h2:ay f<=1024):bJ f=0:=by
 unfold bJ;rw[if_neg (by omega)];refine yC f [] h λx hx=>?_
 obtain⟨a,b|⟨b,c⟩⟩:=hg x hx
 ·exact .inl b
 exact .inr ⟨b,c,a⟩
theorem NM{f:List It}(fmt:Int)(h:rI false f)(hg:∀x∈f,Jo x)(h1:f.length<=512)(h2:ay f<=1024):bj fmt f=(f.flatMap (aH fmt),0):=by
 unfold bj;rw[if_neg (by rw[KV h hg h1 h2];simp),if_neg];intro e;obtain⟨x,hx,hb⟩:=List.any_eq_true.1 e;obtain⟨_,b|⟨b,_⟩⟩:=hg x hx
 ·simp[bp,aJ,b]at hb
 simp[bp,aJ,b]at hb
theorem oG(x:It)(f:List It):aN (x :: f)=(if x.1=1 then x.2.1.map (λc=>((1:Int),[c],(0:Int)))else[x])++aN f:=by simp[aN]
theorem Me(fmt:Int)(f:List It):f.flatMap (aH fmt)=(aN f).flatMap (aH fmt):=by
 induction f with
 | nil=>rfl
 | cons x f ih=>
  rw[oG,List.flatMap_cons,List.flatMap_append,ih];congr 1
  split
  ·rename_i h1
   have e:aH fmt x=x.2.1.flatMap (bh fmt):=by unfold aH;rw[if_pos h1]
   rw[e,List.flatMap_map];congr 1
   funext c
   simp[aH]
  simp
theorem sN(a b:Nat):∀(f:List It) (at':Nat),aN (br a b at' f)=((aN f).take (b-at')).drop (a-at')
 | [],at'=>by simp[aN,br]
 | x :: f,at'=>by
  have hw:(if x.1=1 then x.2.1.map (λc=>((1:Int),[c],(0:Int)))else[x]).length=a7 x:=by unfold a7;split<;>simp
  have ap:∀u v:List It,aN (u++v)=aN u++aN v:=λu v=>by simp[aN]
  rw[br,ap,sN a b f,oG]
  have e2:((aN f).take (b-(at'+a7 x))).drop (a-(at'+a7 x))=((aN f).take (b-at' - a7 x)).drop (a-at' - a7 x):=by
   rw[Nat.sub_add_eq,Nat.sub_add_eq]
  rw[e2];generalize hW:(if x.1=1 then x.2.1.map (λc=>((1:Int),[c],(0:Int)))else[x])=W at hw;rw[List.take_append,List.drop_append,hw]
  have e3:((aN f).take (b-at' - a7 x)).drop (a-at' - (W.take (b-at')).length)=((aN f).take (b-at' - a7 x)).drop (a-at' - a7 x):=by
   rw[List.length_take,hw]
   by_cases h:a7 x<=b-at'
   ·rw[Nat.min_eq_right h]
   rw[show b-at' - a7 x=0 by omega];simp
  rw[e3];congr 1
  split
  ·rename_i h1
   rw[if_pos h1]at hW;have hl:W=x.2.1.map (λc=>((1:Int),[c],(0:Int))):=hW.symm;rw[hl,<-List.map_take,<-List.map_drop]
   have et:x.2.1.take (min b (at'+x.2.1.length)-at')=x.2.1.take (b-at'):=by
    by_cases h:b<=at'+x.2.1.length
    ·rw[Nat.min_eq_left h]
    rw[Nat.min_eq_right (by omega),List.take_of_length_le (by omega),List.take_of_length_le (by omega)]
   have ed:max a at' - at'=a-at':=by omega
   rw[et,ed]
   split
   ·simp[aN]
   rename_i h2
   have:(x.2.1.take (b-at')).drop (a-at')=[]:=by
    apply List.drop_of_length_le;rw[List.length_take];omega
   rw[this];rfl
  rename_i h1
  rw[if_neg h1]at hW;subst hW
  split
  ·rename_i h2
   rw[show a-at'=0 by omega,List.take_of_length_le (by simp;omega)];simp[aN,h1]
  rename_i h2
  by_cases h3:a<=at'
  ·rw[show b-at'=0 by omega];simp[aN]
  rw[List.drop_of_length_le (by simp;omega)];rfl
end Go.Proofs.YthoemdibbldndaaGreatDoor.St
namespace Go.Proofs.YthoemdibbldndaaGreatDoor
end Go.Proofs.YthoemdibbldndaaGreatDoor
namespace Go.Proofs.YthoemdibbldndaaGreatDoor.St
theorem iB(a b:List (List UInt8 × It)):bt (a++b)=bt a++bt b:=by simp[bt]
def cz(ps:List (List UInt8 × It))(j:Nat):Nat:=(bt (ps.take j)).length
theorem Dd(ps:List (List UInt8 × It)):cz ps 0=0:=by simp[cz,bt]
theorem NE(ps:List (List UInt8 × It)):cz ps ps.length=(bt ps).length:=by unfold cz;rw[List.take_length]
theorem Cm(ps:List (List UInt8 × It)){a b:Nat}(h:a<=b):ps.take b=ps.take a++(ps.take b).drop a:=by
 conv=>lhs;rw[<-List.take_append_drop a (ps.take b)]
 rw[List.take_take,Nat.min_eq_left h]
theorem GF(ps:List (List UInt8 × It)){a b:Nat}(h:a<=b):cz ps b=cz ps a+(bt ((ps.take b).drop a)).length:=by
 unfold cz
 conv=>lhs;rw[Cm ps h]
 rw[iB,List.length_append]
theorem L9(ps:List (List UInt8 × It)){a b:Nat}(h:a<=b):cz ps a<=cz ps b:=by rw[GF ps h];omega
theorem PP(ps:List (List UInt8 × It)){a:Nat}(h:a<=ps.length):cz ps a<=(bt ps).length:=by rw[<-NE];exact L9 ps h
theorem JH(ps:List (List UInt8 × It)){a b:Nat}(h:a<=b):((bt ps).take (cz ps b)).drop (cz ps a)=bt ((ps.take b).drop a):=by
 have e:bt ps=bt (ps.take a)++(bt ((ps.take b).drop a)++bt (ps.drop b)):=by
  conv=>lhs;rw[<-List.take_append_drop b ps,iB,Cm ps h,iB]
  rw[List.append_assoc]
 have h2:=GF ps h;have h3:cz ps a=(bt (ps.take a)).length:=rfl;rw[e,List.take_append,List.drop_append];rw[List.drop_of_length_le (by rw[List.length_take];omega),List.nil_append];rw[List.take_of_length_le (i:=cz ps b) (by omega),show cz ps a-(bt (ps.take a)).length=0 by omega,List.drop_zero];rw[List.take_append,List.take_of_length_le (by omega)];rw[show cz ps b-(bt (ps.take a)).length-(bt ((ps.take b).drop a)).length=0 by omega];simp
theorem DN:∀(ps:List (List UInt8 × It)) (a:Nat),uG a a ps++[a+(bt ps).length]=(List.range (ps.length+1)).map (λi=>a+cz ps i)
 | [],a=>by simp[uG,cz,bt]
 | p :: ps,a=>by
  rw[List.length_cons,List.range_succ_eq_map,List.map_cons,List.map_map,Dd];have ih:=DN ps (a+p.1.length);have e:bt (p :: ps)=p.1++bt ps:=by simp[bt]
  rw[uG,List.cons_append,e,List.length_append,<-Nat.add_assoc,ih];congr 1;refine List.map_congr_left λi _=>?_
  simp only[Function.comp];have e2:cz (p :: ps) (i+1)=p.1.length+cz ps i:=by unfold cz;rw[List.take_succ_cons];simp[bt]
  rw[e2];omega
end Go.Proofs.YthoemdibbldndaaGreatDoor.St
namespace Go.Proofs.YthoemdibbldndaaGreatDoor
end Go.Proofs.YthoemdibbldndaaGreatDoor
namespace Go.Proofs.YthoemdibbldndaaGreatDoor.St
theorem EA{b:List It}{x:It}(hg:nD x)(h1:x.1=1->x.2.1≠[]/\nL b=false)(hc:aJ x.1=true->∀y∈b,bw x y=false):bf b x=0:=by
 have gl:aJ x.1=true->b.any (bw x)=false:=λht=>by
  rw[Bool.eq_false_iff];intro e;obtain⟨y,hy,hy2⟩:=List.any_eq_true.1 e;rw[hc ht y hy]at hy2;cases hy2
 unfold bf;rcases hg with⟨g,g0⟩|⟨g,g1,g2⟩|⟨g,g1,g2,g3,g4⟩|⟨g,g1,g2,g3,g4⟩
 ·obtain⟨q1,q3⟩:=h1 g;rw[if_pos g,if_neg];rintro (e|e|⟨y,hy,hy1⟩)
  ·exact q1 e
  ·exact e g0
  unfold nL mD at q3;rw[hy]at q3;simp[hy1]at q3
 ·rw[if_neg (by omega),if_pos g,if_pos ⟨g1,g2⟩]
 ·rw[if_neg (by omega),if_neg (by omega),if_pos g,if_pos ⟨g1,g3,g4⟩,gl (by rw[nK];omega)];rfl
 rw[if_neg (by omega),if_neg (by omega),if_neg (by omega),if_pos g,if_pos ⟨g1,g3,g4⟩,gl (by rw[nK];omega)];rfl
theorem vS:∀(f b:List It),rI (nL b) f->(∀x∈f,nD x)->ea f->(∀y∈b,∀x∈f,aJ x.1=true->bw x y=false)->cI b f=0
 | [],_,_,_,_,_=>rfl
 | x :: f,b,h,hg,hc,hb=>by
  have AS:=List.pairwise_cons.1 hc;have jk:bf b x=0:=EA (hg x (by simp)) (λh1=>⟨(h.1 h1).1,(h.1 h1).2.2⟩) λht y hy=>hb y hy x (by simp) ht
  rw[cI,if_neg (by simp[jk])];refine vS f (b++[x]) ?_ (λy hy=>hg y (by simp[hy])) AS.2 ?_
  ·have:nL (b++[x])=decide (x.1=1):=by unfold nL mD;simp
   rw[this];exact h.2
  intro y hy z hz ht;rcases List.mem_append.1 hy with hy|hy
  ·exact hb y hy z (by simp[hz]) ht
  simp at hy;subst hy;exact AS.1 z hz ht
theorem I9{f:List It}(h:rI false f)(hg:∀x∈f,nD x)(hc:ea f)(h1:f.length<=512)(h2:ay f<=1024):bJ f=0:=by
 unfold bJ;rw[if_neg (by omega)];exact vS f [] h hg hc λy hy=>by cases hy
theorem LZ{f:List It}(hg:∀x∈f,nD x):f.any (bp 1)=false:=by
 rw[Bool.eq_false_iff];intro e;obtain⟨x,hx,hb⟩:=List.any_eq_true.1 e;unfold bp at hb;simp only[Bool.and_eq_true,nK,Bool.or_eq_true,decide_eq_true_eq]at hb;obtain⟨ht,hb|hb⟩:=hb
 ·exact absurd rfl hb
 rcases hg x hx with⟨g,_⟩|⟨g,_⟩|⟨g,g1,g2,_⟩|⟨g,g1,g2,_⟩
 ·omega
 ·omega
 ·rw[g2]at hb;cases hb
 rw[pO g1,g2]at hb;cases hb
theorem Md{f:List It}(h:rI false f)(hg:∀x∈f,nD x)(hc:ea f)(h1:f.length<=512)(h2:ay f<=1024):bj 1 f=(f.flatMap (aH 1),0):=by
 unfold bj;rw[if_neg (by rw[I9 h hg hc h1 h2];simp),LZ hg];rfl
theorem Ir(l f:List It)(h:∀x∈l,x.1=1->x.2.2=0):(aN l).foldl aP f=l.foldl aP f:=by
 induction l generalizing f with
 | nil=>rfl
 | cons x l ih=>
  have hx:=h x (by simp);have hl:∀y∈l,y.1=1->y.2.2=0:=λy hy=>h y (by simp[hy])
  rw[oG,List.foldl_append,List.foldl_cons,<-ih (aP f x) hl];congr 1
  split
  ·rename_i h1
   rw[Gv];obtain⟨k,t,i⟩:=x;simp only at h1 hx |-;rw[h1,hx h1]
  rfl
theorem pr{f:List It}(h:Nm f)(h0:∀x∈f,x.1=1->x.2.2=0):(aN f).foldl aP []=f:=by rw[Ir f [] h0];exact h
end Go.Proofs.YthoemdibbldndaaGreatDoor.St
