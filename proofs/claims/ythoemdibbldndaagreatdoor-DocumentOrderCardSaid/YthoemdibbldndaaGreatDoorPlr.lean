/- Plain: a slice of one position, and its encoding. -/
import Derived.Test.YthoemdibbldndaaGreatDoorGK
set_option linter.all false
namespace Go.Proofs.YthoemdibbldndaaGreatDoor.St
theorem ep(f:List It):(aE f).length=aA f:=by
 induction f with
 | nil=>rfl
 | cons x f ih=>
  have e:aE (x :: f)=(if x.1=1 then x.2.1.map (λc=>((1:Int),[c],(0:Int)))else[x])++aE f:=by simp[aE]
  rw[e,List.length_append,ih];simp only[aA,List.map_cons,List.sum_cons];unfold aV
  split<;>simp
theorem BR(i:Nat):∀(f:List It) (at':Nat),(i<at'\/at'+aA f<=i)->aR i (i+1) at' f=[]
 | [],_,_=>rfl
 | x :: f,at',h=>by
  have hl:aA (x :: f)=aV x+aA f:=by simp[aA]
  rw[hl]at h;rw[aR,BR i f (at'+aV x) (by omega),List.append_nil];unfold aV at h
  split
  ·rename_i h1
   rw[if_pos h1]at h;rw[if_neg (by omega)]
  rename_i h1
  rw[if_neg h1]at h;rw[if_neg (by omega)]
theorem BQ(i:Nat):∀(f:List It) (at':Nat),(∀x∈f,x.1=1->x.2.2=0)->at'<=i->(h:i-at'<(aE f).length)->aR i (i+1) at' f=[(aE f)[i-at']]
 | [],_,_,_,h=>by simp[aE]at h
 | x :: f,at',h0,hi,h=>by
  have e:aE (x :: f)=(if x.1=1 then x.2.1.map (λc=>((1:Int),[c],(0:Int)))else[x])++aE f:=by simp[aE]
  have hw:(if x.1=1 then x.2.1.map (λc=>((1:Int),[c],(0:Int)))else[x]).length=aV x:=by unfold aV;split<;>simp
  rw[aR]
  by_cases hlt:i-at'<aV x
  ·rw[BR i f (at'+aV x) (by omega),List.append_nil];have hg:(aE (x :: f))[i-at']?=(if x.1=1 then x.2.1.map (λc=>((1:Int),[c],(0:Int)))else[x])[i-at']?:=by rw[e,List.getElem?_append_left (by omega)]
   have hg2:(aE (x :: f))[i-at']?=some (aE (x :: f))[i-at']:=List.getElem?_eq_getElem h;rw[hg2]at hg;unfold aV at hlt
   split at hg
   ·rename_i h1
    rw[if_pos h1]at hlt |-;rw[if_pos (by omega),show max i at' - at'=i-at' by omega,show min (i+1) (at'+x.2.1.length)-at'=i-at'+1 by omega];have hx:=h0 x (by simp) h1;rw[hx,List.take_add_one,List.getElem?_eq_getElem hlt,List.drop_append_of_le_length (by simp;omega),List.drop_of_length_le (by simp;omega)];rw[List.getElem?_map,List.getElem?_eq_getElem hlt]at hg;simp only[Option.map_some,Option.some.injEq]at hg;rw[hg];rfl
   rename_i h1
   rw[if_neg h1]at hlt |-;rw[if_pos (by omega)];have hz:i-at'=0:=by omega
   simp only[hz]at hg |-;simp at hg;rw[hg]
  have hlen:=h;rw[e,List.length_append,hw]at hlen;have ih:=BQ i f (at'+aV x) (λy hy=>h0 y (by simp[hy])) (by omega) (by omega);have hg:(aE (x :: f))[i-at']?=(aE f)[i-(at'+aV x)]?:=by rw[e,List.getElem?_append_right (by omega),hw];congr 1;omega
  have hg2:(aE (x :: f))[i-at']?=some (aE (x :: f))[i-at']:=List.getElem?_eq_getElem h;have hg3:(aE f)[i-(at'+aV x)]?=some ((aE f)[i-(at'+aV x)]'(by omega)):=List.getElem?_eq_getElem (by omega);rw[hg2,hg3]at hg;rw[ih,Option.some.inj hg]
  have hn:(if x.1=1 then(if max i at' - at'<min (i+1) (at'+x.2.1.length)-at' then[((1:Int),(x.2.1.take (min (i+1) (at'+x.2.1.length)-at')).drop (max i at' - at'),x.2.2)]else[])else(if i<=at'/\at'<i+1 then[x]else[]))=[]:=by
   unfold aV at hlt
   split
   ·rename_i h1
    rw[if_pos h1]at hlt;rw[if_neg (by omega)]
   rename_i h1
   rw[if_neg h1]at hlt;rw[if_neg (by omega)]
  rw[hn];rfl
def oO(p:It):Prop:=(∃c,p=(1,[c],0))\/(∃t,p=(5,t,0)/\aF t=true)
theorem sn{t:List UInt8}(h:aF t=true):t.length<=24/\t≠[]:=by
 cases t with
 | nil=>cases h
 | cons c r=>
  rw[aF]at h;simp only[Bool.and_eq_true,decide_eq_true_eq]at h;exact⟨by simp;omega,by simp⟩
end Go.Proofs.YthoemdibbldndaaGreatDoor.St
namespace Go.Proofs.YthoemdibbldndaaGreatDoor
end Go.Proofs.YthoemdibbldndaaGreatDoor
namespace Go.Proofs.YthoemdibbldndaaGreatDoor
open Go.RowKit
end Go.Proofs.YthoemdibbldndaaGreatDoor
namespace Go.Proofs.YthoemdibbldndaaGreatDoor.St
def lN:Bool->List It->Prop
 | _,[]=>True
 | p,x :: r=>(x.1=1->x.2.1≠[]/\x.2.2=0/\p=false)/\lN (decide (x.1=1)) r
theorem Na{p:Bool}{f:List It}(h:lN p f):lN false f:=by
 cases f with
 | nil=>trivial
 | cons x r=>exact⟨λh1=>⟨(h.1 h1).1,(h.1 h1).2.1,rfl⟩,h.2⟩
def lp(p:Bool)(f:List It):Bool:=match f.getLast? with|none=>p|some y=>decide (y.1=1)
theorem IJ(p:Bool)(x:It)(f:List It):lp p (x :: f)=lp (decide (x.1=1)) f:=by
 unfold lp;cases f with
 | nil=>rfl
 | cons y r=>
  rw[List.getLast?_cons_cons];cases h:(y :: r).getLast? with
  | none=>simp at h
  | some z=>rfl
theorem Ef{x:It}:∀(f:List It) (p:Bool),lN p f->(x.1=1->x.2.1≠[]/\x.2.2=0/\lp p f=false)->lN p (f++[x])
 | [],p,_,h=>⟨h,trivial⟩
 | y :: f,p,hf,h=>⟨hf.1,Ef f _ hf.2 (by rw[IJ]at h;exact h)⟩
theorem Ei:∀(n:Nat) (f:List It),f.length=n->Nm f->lN false f
 | 0,f,hn,_=>by rw[List.eq_nil_of_length_eq_zero hn];trivial
 | n+1,f,hn,h=>by
  rcases cL f with rfl|⟨a,b,rfl⟩
  ·trivial
  obtain⟨h1,h2⟩:=Gw h;refine Ef a false (Ei n a (by simpa using hn) h1) λhb=>⟨(h2 hb).1,(h2 hb).2.1,?_⟩
  unfold lp;cases hg:a.getLast? with
  | none=>rfl
  | some z=>exact decide_eq_false ((h2 hb).2.2 z hg)
theorem uw{f:List It}(h:Nm f):lN false f:=Ei _ f rfl h
def kJ(b:List It):Bool:=lp false b
theorem Bv:∀(f b:List It),lN (kJ b) f->(∀x∈f,x.1=1\/(x.1=5/\aF x.2.1=true/\x.2.2=0))->db b f=0
 | [],_,_,_=>rfl
 | x :: f,b,h,hg=>by
  have hc:bi b x=0:=by
   rcases hg x (by simp)with h1|⟨h1,h2,h3⟩
   ·obtain⟨q1,q2,q3⟩:=h.1 h1;unfold bi;rw[if_pos h1,if_neg];rintro (e|e|⟨y,hy,hy1⟩)
    ·exact q1 e
    ·exact e q2
    unfold kJ lp at q3;rw[hy]at q3;simp[hy1]at q3
   unfold bi;rw[if_neg (by rw[h1];decide),if_pos h1,if_pos ⟨h2,h3⟩]
  rw[db,if_neg (by simp[hc])];refine Bv f (b++[x]) ?_ λy hy=>hg y (by simp[hy])
  have:kJ (b++[x])=decide (x.1=1):=by unfold kJ lp;simp
  rw[this];exact h.2
def Mb(x:It):Prop:=x.2.2=0/\(x.1=1\/(x.1=5/\aF x.2.1=true))
theorem NP{f:List It}(h:lN false f)(hg:∀x∈f,Mb x)(h1:f.length<=512)(h2:aA f<=1024):bP f=0:=by
 unfold bP;rw[if_neg (by omega)];refine Bv f [] h λx hx=>?_
 obtain⟨a,b|⟨b,c⟩⟩:=hg x hx
 ·exact .inl b
 exact .inr ⟨b,c,a⟩
theorem QZ{f:List It}(fmt:Int)(h:lN false f)(hg:∀x∈f,Mb x)(h1:f.length<=512)(h2:aA f<=1024):bn fmt f=(f.flatMap (aL fmt),0):=by
 unfold bn;rw[if_neg (by rw[NP h hg h1 h2];simp),if_neg];intro e;obtain⟨x,hx,hb⟩:=List.any_eq_true.1 e;obtain⟨_,b|⟨b,_⟩⟩:=hg x hx
 ·simp[bA,aQ,b]at hb
 simp[bA,aQ,b]at hb
theorem pD(x:It)(f:List It):aE (x :: f)=(if x.1=1 then x.2.1.map (λc=>((1:Int),[c],(0:Int)))else[x])++aE f:=by simp[aE]
theorem O9(fmt:Int)(f:List It):f.flatMap (aL fmt)=(aE f).flatMap (aL fmt):=by
 induction f with
 | nil=>rfl
 | cons x f ih=>
  rw[pD,List.flatMap_cons,List.flatMap_append,ih];congr 1
  split
  ·rename_i h1
   have e:aL fmt x=x.2.1.flatMap (bl fmt):=by unfold aL;rw[if_pos h1]
   rw[e,List.flatMap_map];congr 1
   funext c
   simp[aL]
  simp
theorem iu(a b:Nat):∀(f:List It) (at':Nat),aE (aR a b at' f)=((aE f).take (b-at')).drop (a-at')
 | [],at'=>by simp[aE,aR]
 | x :: f,at'=>by
  have hw:(if x.1=1 then x.2.1.map (λc=>((1:Int),[c],(0:Int)))else[x]).length=aV x:=by unfold aV;split<;>simp
  have ap:∀u v:List It,aE (u++v)=aE u++aE v:=λu v=>by simp[aE]
  rw[aR,ap,iu a b f,pD]
  have e2:((aE f).take (b-(at'+aV x))).drop (a-(at'+aV x))=((aE f).take (b-at' - aV x)).drop (a-at' - aV x):=by
   rw[Nat.sub_add_eq,Nat.sub_add_eq]
  rw[e2];generalize hW:(if x.1=1 then x.2.1.map (λc=>((1:Int),[c],(0:Int)))else[x])=W at hw;rw[List.take_append,List.drop_append,hw]
  have e3:((aE f).take (b-at' - aV x)).drop (a-at' - (W.take (b-at')).length)=((aE f).take (b-at' - aV x)).drop (a-at' - aV x):=by
   rw[List.length_take,hw]
   by_cases h:aV x<=b-at'
   ·rw[Nat.min_eq_right h]
   rw[show b-at' - aV x=0 by omega];simp
  rw[e3];congr 1
  split
  ·rename_i h1
   rw[if_pos h1]at hW;have hl:W=x.2.1.map (λc=>((1:Int),[c],(0:Int))):=hW.symm;rw[hl,<-List.map_take,<-List.map_drop]
   have et:x.2.1.take (min b (at'+x.2.1.length)-at')=x.2.1.take (b-at'):=by
    by_cases h:b<=at'+x.2.1.length
    ·rw[Nat.min_eq_left h]
    rw[Nat.min_eq_right (by omega),List.take_of_length_le (by omega),List.take_of_length_le (by omega)]
   have ed:max a at' - at'=a-at':=by omega
   rw[et,ed]
   split
   ·simp[aE]
   rename_i h2
   have:(x.2.1.take (b-at')).drop (a-at')=[]:=by
    apply List.drop_of_length_le;rw[List.length_take];omega
   rw[this];rfl
  rename_i h1
  rw[if_neg h1]at hW;subst hW
  split
  ·rename_i h2
   rw[show a-at'=0 by omega,List.take_of_length_le (by simp;omega)];simp[aE,h1]
  rename_i h2
  by_cases h3:a<=at'
  ·rw[show b-at'=0 by omega];simp[aE]
  rw[List.drop_of_length_le (by simp;omega)];rfl
theorem yH(a b:Nat):∀(f:List It) (at':Nat),b<=at'->aR a b at' f=[]
 | [],_,_=>rfl
 | x :: f,at',h=>by
  rw[aR,yH a b f _ (by omega),List.append_nil]
  split
  ·rw[if_neg (by omega)]
  rw[if_neg (by omega)]
theorem sl(a b:Nat):∀(f:List It) (at':Nat) (p:Bool),a<=at'->lN p f->lN p (aR a b at' f)
 | [],_,_,_,_=>trivial
 | x :: f,at',p,ha,h=>by
  by_cases hb:b<=at'
  ·rw[yH a b _ _ hb];trivial
  rw[aR];have ih:=sl a b f (at'+aV x) _ (by omega) h.2
  split
  ·rename_i h1
   obtain⟨q1,q2,q3⟩:=h.1 h1;have q4:0<x.2.1.length:=List.length_pos_iff.2 q1;rw[if_pos (by omega)];rw[h1]at ih;refine⟨λ_=>⟨?_,q2,q3⟩,ih⟩;intro e;have:=congrArg List.length e
   simp at this;omega
  rename_i h1
  rw[if_pos (by omega)];exact⟨λe=>absurd e h1,ih⟩
theorem Bu(a b:Nat):∀(f:List It) (at':Nat) (p:Bool),lN p f->lN false (aR a b at' f)
 | [],_,_,_=>trivial
 | x :: f,at',p,h=>by
  by_cases ha:a<=at'
  ·exact Na (sl a b (x :: f) at' p ha h)
  rw[aR];have ih:=Bu a b f (at'+aV x) _ h.2
  split
  ·rename_i h1
   obtain⟨q1,q2,q3⟩:=h.1 h1
   split
   ·rename_i h2
    have ew:aV x=x.2.1.length:=by unfold aV;rw[if_pos h1]
    have i2:=sl a b f (at'+aV x) _ (by omega) h.2;rw[h1]at i2;refine⟨λ_=>⟨?_,q2,rfl⟩,i2⟩;intro e;have:=congrArg List.length e
    simp at this;omega
   exact ih
  rename_i h1
  rw[if_neg (by omega)];exact ih
theorem Jb(a b:Nat)(f:List It):aA (aR a b 0 f)=min b (aA f)-a:=by
 rw[<-ep,iu,List.length_drop,List.length_take,ep];simp
theorem BP(a b:Nat):∀(f:List It) (at':Nat),(aR a b at' f).length<=f.length
 | [],_=>by simp[aR]
 | x :: f,at'=>by
  rw[aR,List.length_append,List.length_cons];have:=BP a b f (at'+aV x)
  repeat' split
  all_goals simp<;>omega
end Go.Proofs.YthoemdibbldndaaGreatDoor.St
namespace Go.Proofs.YthoemdibbldndaaGreatDoor
end Go.Proofs.YthoemdibbldndaaGreatDoor
namespace Go.Proofs.YthoemdibbldndaaGreatDoor.St
theorem iT(a b:List (List UInt8 × It)):a6 (a++b)=a6 a++a6 b:=by simp[a6]
def cz(ps:List (List UInt8 × It))(j:Nat):Nat:=(a6 (ps.take j)).length
theorem FZ(ps:List (List UInt8 × It)):cz ps 0=0:=by simp[cz,a6]
theorem QP(ps:List (List UInt8 × It)):cz ps ps.length=(a6 ps).length:=by unfold cz;rw[List.take_length]
theorem E0(ps:List (List UInt8 × It)){a b:Nat}(h:a<=b):ps.take b=ps.take a++(ps.take b).drop a:=by
 conv=>lhs;rw[<-List.take_append_drop a (ps.take b)]
 rw[List.take_take,Nat.min_eq_left h]
theorem JV(ps:List (List UInt8 × It)){a b:Nat}(h:a<=b):cz ps b=cz ps a+(a6 ((ps.take b).drop a)).length:=by
 unfold cz
 conv=>lhs;rw[E0 ps h]
 rw[iT,List.length_append]
theorem O4(ps:List (List UInt8 × It)){a b:Nat}(h:a<=b):cz ps a<=cz ps b:=by rw[JV ps h];omega
theorem Tj(ps:List (List UInt8 × It)){a:Nat}(h:a<=ps.length):cz ps a<=(a6 ps).length:=by rw[<-QP];exact O4 ps h
theorem Mt(ps:List (List UInt8 × It)){a b:Nat}(h:a<=b):((a6 ps).take (cz ps b)).drop (cz ps a)=a6 ((ps.take b).drop a):=by
 have e:a6 ps=a6 (ps.take a)++(a6 ((ps.take b).drop a)++a6 (ps.drop b)):=by
  conv=>lhs;rw[<-List.take_append_drop b ps,iT,E0 ps h,iT]
  rw[List.append_assoc]
 have h2:=JV ps h;have h3:cz ps a=(a6 (ps.take a)).length:=rfl;rw[e,List.take_append,List.drop_append];rw[List.drop_of_length_le (by rw[List.length_take];omega),List.nil_append];rw[List.take_of_length_le (i:=cz ps b) (by omega),show cz ps a-(a6 (ps.take a)).length=0 by omega,List.drop_zero];rw[List.take_append,List.take_of_length_le (by omega)];rw[show cz ps b-(a6 (ps.take a)).length-(a6 ((ps.take b).drop a)).length=0 by omega];simp
theorem GA:∀(ps:List (List UInt8 × It)) (a:Nat),wH a a ps++[a+(a6 ps).length]=(List.range (ps.length+1)).map (λi=>a+cz ps i)
 | [],a=>by simp[wH,cz,a6]
 | p :: ps,a=>by
  rw[List.length_cons,List.range_succ_eq_map,List.map_cons,List.map_map,FZ];have ih:=GA ps (a+p.1.length);have e:a6 (p :: ps)=p.1++a6 ps:=by simp[a6]
  rw[wH,List.cons_append,e,List.length_append,<-Nat.add_assoc,ih];congr 1;refine List.map_congr_left λi _=>?_
  simp only[Function.comp];have e2:cz (p :: ps) (i+1)=p.1.length+cz ps i:=by unfold cz;rw[List.take_succ_cons];simp[a6]
  rw[e2];omega
end Go.Proofs.YthoemdibbldndaaGreatDoor.St
namespace Go.Proofs.YthoemdibbldndaaGreatDoor
end Go.Proofs.YthoemdibbldndaaGreatDoor
namespace Go.Proofs.YthoemdibbldndaaGreatDoor.St
theorem Hn{b:List It}{x:It}(hg:ol x)(h1:x.1=1->x.2.1≠[]/\kJ b=false)(hc:aQ x.1=true->∀y∈b,bH x y=false):bi b x=0:=by
 have gH:aQ x.1=true->b.any (bH x)=false:=λht=>by
  rw[Bool.eq_false_iff];intro e;obtain⟨y,hy,hy2⟩:=List.any_eq_true.1 e;rw[hc ht y hy]at hy2;cases hy2
 unfold bi;rcases hg with⟨g,g0⟩|⟨g,g1,g2⟩|⟨g,g1,g2,g3,g4⟩|⟨g,g1,g2,g3,g4⟩
 ·obtain⟨q1,q3⟩:=h1 g;rw[if_pos g,if_neg];rintro (e|e|⟨y,hy,hy1⟩)
  ·exact q1 e
  ·exact e g0
  unfold kJ lp at q3;rw[hy]at q3;simp[hy1]at q3
 ·rw[if_neg (by omega),if_pos g,if_pos ⟨g1,g2⟩]
 ·rw[if_neg (by omega),if_neg (by omega),if_pos g,if_pos ⟨g1,g3,g4⟩,gH (by rw[sd];omega)];rfl
 rw[if_neg (by omega),if_neg (by omega),if_neg (by omega),if_pos g,if_pos ⟨g1,g3,g4⟩,gH (by rw[sd];omega)];rfl
theorem yn:∀(f b:List It),lN (kJ b) f->(∀x∈f,ol x)->eZ f->(∀y∈b,∀x∈f,aQ x.1=true->bH x y=false)->db b f=0
 | [],_,_,_,_,_=>rfl
 | x :: f,b,h,hg,hc,hb=>by
  have Dx:=List.pairwise_cons.1 hc;have jD:bi b x=0:=Hn (hg x (by simp)) (λh1=>⟨(h.1 h1).1,(h.1 h1).2.2⟩) λht y hy=>hb y hy x (by simp) ht
  rw[db,if_neg (by simp[jD])];refine yn f (b++[x]) ?_ (λy hy=>hg y (by simp[hy])) Dx.2 ?_
  ·have:kJ (b++[x])=decide (x.1=1):=by unfold kJ lp;simp
   rw[this];exact h.2
  intro y hy z hz ht;rcases List.mem_append.1 hy with hy|hy
  ·exact hb y hy z (by simp[hz]) ht
  simp at hy;subst hy;exact Dx.1 z hz ht
theorem LW{f:List It}(h:lN false f)(hg:∀x∈f,ol x)(hc:eZ f)(h1:f.length<=512)(h2:aA f<=1024):bP f=0:=by
 unfold bP;rw[if_neg (by omega)];exact yn f [] h hg hc λy hy=>by cases hy
theorem OY{f:List It}(hg:∀x∈f,ol x):f.any (bA 1)=false:=by
 rw[Bool.eq_false_iff];intro e;obtain⟨x,hx,hb⟩:=List.any_eq_true.1 e;unfold bA at hb;simp only[Bool.and_eq_true,sd,Bool.or_eq_true,decide_eq_true_eq]at hb;obtain⟨ht,hb|hb⟩:=hb
 ·exact absurd rfl hb
 rcases hg x hx with⟨g,_⟩|⟨g,_⟩|⟨g,g1,g2,_⟩|⟨g,g1,g2,_⟩
 ·omega
 ·omega
 ·rw[g2]at hb;cases hb
 rw[qN g1,g2]at hb;cases hb
theorem O8{f:List It}(h:lN false f)(hg:∀x∈f,ol x)(hc:eZ f)(h1:f.length<=512)(h2:aA f<=1024):bn 1 f=(f.flatMap (aL 1),0):=by
 unfold bn;rw[if_neg (by rw[LW h hg hc h1 h2];simp),OY hg];rfl
theorem Lb(l f:List It)(h:∀x∈l,x.1=1->x.2.2=0):(aE l).foldl aK f=l.foldl aK f:=by
 induction l generalizing f with
 | nil=>rfl
 | cons x l ih=>
  have hx:=h x (by simp);have hl:∀y∈l,y.1=1->y.2.2=0:=λy hy=>h y (by simp[hy])
  rw[pD,List.foldl_append,List.foldl_cons,<-ih (aK f x) hl];congr 1
  split
  ·rename_i h1
   rw[JN];obtain⟨k,t,i⟩:=x;simp only at h1 hx |-;rw[h1,hx h1]
  rfl
theorem lV{f:List It}(h:Nm f)(h0:∀x∈f,x.1=1->x.2.2=0):(aE f).foldl aK []=f:=by rw[Lb f [] h0];exact h
end Go.Proofs.YthoemdibbldndaaGreatDoor.St
