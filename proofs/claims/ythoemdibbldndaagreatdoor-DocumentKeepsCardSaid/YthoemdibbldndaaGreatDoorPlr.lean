/- Plain: a slice of one position, and its encoding. -/
import Derived.Test.YthoemdibbldndaaGreatDoorGK
set_option linter.all false
namespace Go.Proofs.YthoemdibbldndaaGreatDoor.St
theorem ga(f:List It):(aM f).length=aA f:=by
 induction f with
 | nil=>rfl
 | cons x f ih=>
  have e:aM (x :: f)=(if x.1=1 then x.2.1.map (λc=>((1:Int),[c],(0:Int)))else[x])++aM f:=by simp[aM]
  rw[e,List.length_append,ih];simp only[aA,List.map_cons,List.sum_cons];unfold aZ
  split<;>simp
theorem Bg(i:Nat):∀(f:List It) (at':Nat),(i<at'\/at'+aA f<=i)->aY i (i+1) at' f=[]
 | [],_,_=>rfl
 | x :: f,at',h=>by
  have hl:aA (x :: f)=aZ x+aA f:=by simp[aA]
  rw[hl]at h;rw[aY,Bg i f (at'+aZ x) (by omega),List.append_nil];unfold aZ at h
  split
  ·rename_i h1
   rw[if_pos h1]at h;rw[if_neg (by omega)]
  rename_i h1
  rw[if_neg h1]at h;rw[if_neg (by omega)]
theorem Bf(i:Nat):∀(f:List It) (at':Nat),(∀x∈f,x.1=1->x.2.2=0)->at'<=i->(h:i-at'<(aM f).length)->aY i (i+1) at' f=[(aM f)[i-at']]
 | [],_,_,_,h=>by simp[aM]at h
 | x :: f,at',h0,hi,h=>by
  have e:aM (x :: f)=(if x.1=1 then x.2.1.map (λc=>((1:Int),[c],(0:Int)))else[x])++aM f:=by simp[aM]
  have hw:(if x.1=1 then x.2.1.map (λc=>((1:Int),[c],(0:Int)))else[x]).length=aZ x:=by unfold aZ;split<;>simp
  rw[aY]
  by_cases hlt:i-at'<aZ x
  ·rw[Bg i f (at'+aZ x) (by omega),List.append_nil];have hg:(aM (x :: f))[i-at']?=(if x.1=1 then x.2.1.map (λc=>((1:Int),[c],(0:Int)))else[x])[i-at']?:=by rw[e,List.getElem?_append_left (by omega)]
   have hg2:(aM (x :: f))[i-at']?=some (aM (x :: f))[i-at']:=List.getElem?_eq_getElem h;rw[hg2]at hg;unfold aZ at hlt
   split at hg
   ·rename_i h1
    rw[if_pos h1]at hlt |-;rw[if_pos (by omega),show max i at' - at'=i-at' by omega,show min (i+1) (at'+x.2.1.length)-at'=i-at'+1 by omega];have hx:=h0 x (by simp) h1;rw[hx,List.take_add_one,List.getElem?_eq_getElem hlt,List.drop_append_of_le_length (by simp;omega),List.drop_of_length_le (by simp;omega)];rw[List.getElem?_map,List.getElem?_eq_getElem hlt]at hg;simp only[Option.map_some,Option.some.injEq]at hg;rw[hg];rfl
   rename_i h1
   rw[if_neg h1]at hlt |-;rw[if_pos (by omega)];have hz:i-at'=0:=by omega
   simp only[hz]at hg |-;simp at hg;rw[hg]
  have hlen:=h;rw[e,List.length_append,hw]at hlen;have ih:=Bf i f (at'+aZ x) (λy hy=>h0 y (by simp[hy])) (by omega) (by omega);have hg:(aM (x :: f))[i-at']?=(aM f)[i-(at'+aZ x)]?:=by rw[e,List.getElem?_append_right (by omega),hw];congr 1;omega
  have hg2:(aM (x :: f))[i-at']?=some (aM (x :: f))[i-at']:=List.getElem?_eq_getElem h;have hg3:(aM f)[i-(at'+aZ x)]?=some ((aM f)[i-(at'+aZ x)]'(by omega)):=List.getElem?_eq_getElem (by omega);rw[hg2,hg3]at hg;rw[ih,Option.some.inj hg]
  have hn:(if x.1=1 then(if max i at' - at'<min (i+1) (at'+x.2.1.length)-at' then[((1:Int),(x.2.1.take (min (i+1) (at'+x.2.1.length)-at')).drop (max i at' - at'),x.2.2)]else[])else(if i<=at'/\at'<i+1 then[x]else[]))=[]:=by
   unfold aZ at hlt
   split
   ·rename_i h1
    rw[if_pos h1]at hlt;rw[if_neg (by omega)]
   rename_i h1
   rw[if_neg h1]at hlt;rw[if_neg (by omega)]
  rw[hn];rfl
def oK(p:It):Prop:=(∃c,p=(1,[c],0))\/(∃t,p=(5,t,0)/\aE t=true)
theorem r5{t:List UInt8}(h:aE t=true):t.length<=24/\t≠[]:=by
 cases t with
 | nil=>cases h
 | cons c r=>
  rw[aE]at h;simp only[Bool.and_eq_true,decide_eq_true_eq]at h;exact⟨by simp;omega,by simp⟩
end Go.Proofs.YthoemdibbldndaaGreatDoor.St
namespace Go.Proofs.YthoemdibbldndaaGreatDoor
end Go.Proofs.YthoemdibbldndaaGreatDoor
namespace Go.Proofs.YthoemdibbldndaaGreatDoor
open Go.RowKit
end Go.Proofs.YthoemdibbldndaaGreatDoor
namespace Go.Proofs.YthoemdibbldndaaGreatDoor.St
def qL:Bool->List It->Prop
 | _,[]=>True
 | p,x :: r=>(x.1=1->x.2.1≠[]/\x.2.2=0/\p=false)/\qL (decide (x.1=1)) r
def nw(p:Bool)(f:List It):Bool:=match f.getLast? with|none=>p|some y=>decide (y.1=1)
theorem Hs(p:Bool)(x:It)(f:List It):nw p (x :: f)=nw (decide (x.1=1)) f:=by
 unfold nw;cases f with
 | nil=>rfl
 | cons y r=>
  rw[List.getLast?_cons_cons];cases h:(y :: r).getLast? with
  | none=>simp at h
  | some z=>rfl
theorem Dp{x:It}:∀(f:List It) (p:Bool),qL p f->(x.1=1->x.2.1≠[]/\x.2.2=0/\nw p f=false)->qL p (f++[x])
 | [],p,_,h=>⟨h,trivial⟩
 | y :: f,p,hf,h=>⟨hf.1,Dp f _ hf.2 (by rw[Hs]at h;exact h)⟩
theorem Ds:∀(n:Nat) (f:List It),f.length=n->Nm f->qL false f
 | 0,f,hn,_=>by rw[List.eq_nil_of_length_eq_zero hn];trivial
 | n+1,f,hn,h=>by
  rcases cT f with rfl|⟨a,b,rfl⟩
  ·trivial
  obtain⟨h1,h2⟩:=FL h;refine Dp a false (Ds n a (by simpa using hn) h1) λhb=>⟨(h2 hb).1,(h2 hb).2.1,?_⟩
  unfold nw;cases hg:a.getLast? with
  | none=>rfl
  | some z=>exact decide_eq_false ((h2 hb).2.2 z hg)
theorem xP{f:List It}(h:Nm f):qL false f:=Ds _ f rfl h
def oh(b:List It):Bool:=nw false b
theorem AF:∀(f b:List It),qL (oh b) f->(∀x∈f,x.1=1\/(x.1=5/\aE x.2.1=true/\x.2.2=0))->dc b f=0
 | [],_,_,_=>rfl
 | x :: f,b,h,hg=>by
  have hc:bh b x=0:=by
   rcases hg x (by simp)with h1|⟨h1,h2,h3⟩
   ·obtain⟨q1,q2,q3⟩:=h.1 h1;unfold bh;rw[if_pos h1,if_neg];rintro (e|e|⟨y,hy,hy1⟩)
    ·exact q1 e
    ·exact e q2
    unfold oh nw at q3;rw[hy]at q3;simp[hy1]at q3
   unfold bh;rw[if_neg (by rw[h1];decide),if_pos h1,if_pos ⟨h2,h3⟩]
  rw[dc,if_neg (by simp[hc])];refine AF f (b++[x]) ?_ λy hy=>hg y (by simp[hy])
  have:oh (b++[x])=decide (x.1=1):=by unfold oh nw;simp
  rw[this];exact h.2
def Lm(x:It):Prop:=x.2.2=0/\(x.1=1\/(x.1=5/\aE x.2.1=true))
theorem M5{f:List It}(h:qL false f)(hg:∀x∈f,Lm x)(h1:f.length<=512)(h2:aA f<=1024):bN f=0:=by
 unfold bN;rw[if_neg (by omega)];refine AF f [] h λx hx=>?_
 obtain⟨a,b|⟨b,c⟩⟩:=hg x hx
 ·exact .inl b
 exact .inr ⟨b,c,a⟩
theorem QB{f:List It}(fmt:Int)(h:qL false f)(hg:∀x∈f,Lm x)(h1:f.length<=512)(h2:aA f<=1024):bw fmt f=(f.flatMap (aK fmt),0):=by
 unfold bw;rw[if_neg (by rw[M5 h hg h1 h2];simp),if_neg];intro e;obtain⟨x,hx,hb⟩:=List.any_eq_true.1 e;obtain⟨_,b|⟨b,_⟩⟩:=hg x hx
 ·simp[bu,aQ,b]at hb
 simp[bu,aQ,b]at hb
theorem px(x:It)(f:List It):aM (x :: f)=(if x.1=1 then x.2.1.map (λc=>((1:Int),[c],(0:Int)))else[x])++aM f:=by simp[aM]
theorem OB(fmt:Int)(f:List It):f.flatMap (aK fmt)=(aM f).flatMap (aK fmt):=by
 induction f with
 | nil=>rfl
 | cons x f ih=>
  rw[px,List.flatMap_cons,List.flatMap_append,ih];congr 1
  split
  ·rename_i h1
   have e:aK fmt x=x.2.1.flatMap (bj fmt):=by unfold aK;rw[if_pos h1]
   rw[e,List.flatMap_map];congr 1
   funext c
   simp[aK]
  simp
theorem lO(a b:Nat):∀(f:List It) (at':Nat),aM (aY a b at' f)=((aM f).take (b-at')).drop (a-at')
 | [],at'=>by simp[aM,aY]
 | x :: f,at'=>by
  have hw:(if x.1=1 then x.2.1.map (λc=>((1:Int),[c],(0:Int)))else[x]).length=aZ x:=by unfold aZ;split<;>simp
  have ap:∀u v:List It,aM (u++v)=aM u++aM v:=λu v=>by simp[aM]
  rw[aY,ap,lO a b f,px]
  have e2:((aM f).take (b-(at'+aZ x))).drop (a-(at'+aZ x))=((aM f).take (b-at' - aZ x)).drop (a-at' - aZ x):=by
   rw[Nat.sub_add_eq,Nat.sub_add_eq]
  rw[e2];generalize hW:(if x.1=1 then x.2.1.map (λc=>((1:Int),[c],(0:Int)))else[x])=W at hw;rw[List.take_append,List.drop_append,hw]
  have e3:((aM f).take (b-at' - aZ x)).drop (a-at' - (W.take (b-at')).length)=((aM f).take (b-at' - aZ x)).drop (a-at' - aZ x):=by
   rw[List.length_take,hw]
   by_cases h:aZ x<=b-at'
   ·rw[Nat.min_eq_right h]
   rw[show b-at' - aZ x=0 by omega];simp
  rw[e3];congr 1
  split
  ·rename_i h1
   rw[if_pos h1]at hW;have hl:W=x.2.1.map (λc=>((1:Int),[c],(0:Int))):=hW.symm;rw[hl,<-List.map_take,<-List.map_drop]
   have et:x.2.1.take (min b (at'+x.2.1.length)-at')=x.2.1.take (b-at'):=by
    by_cases h:b<=at'+x.2.1.length
    ·rw[Nat.min_eq_left h]
    rw[Nat.min_eq_right (by omega),List.take_of_length_le (by omega),List.take_of_length_le (by omega)]
   have ed:max a at' - at'=a-at':=by omega
   rw[et,ed]
   split
   ·simp[aM]
   rename_i h2
   have:(x.2.1.take (b-at')).drop (a-at')=[]:=by
    apply List.drop_of_length_le;rw[List.length_take];omega
   rw[this];rfl
  rename_i h1
  rw[if_neg h1]at hW;subst hW
  split
  ·rename_i h2
   rw[show a-at'=0 by omega,List.take_of_length_le (by simp;omega)];simp[aM,h1]
  rename_i h2
  by_cases h3:a<=at'
  ·rw[show b-at'=0 by omega];simp[aM]
  rw[List.drop_of_length_le (by simp;omega)];rfl
theorem Ir(a b:Nat)(f:List It):aA (aY a b 0 f)=min b (aA f)-a:=by
 rw[<-ga,lO,List.length_drop,List.length_take,ga];simp
theorem Be(a b:Nat):∀(f:List It) (at':Nat),(aY a b at' f).length<=f.length
 | [],_=>by simp[aY]
 | x :: f,at'=>by
  rw[aY,List.length_append,List.length_cons];have:=Be a b f (at'+aZ x)
  repeat' split
  all_goals simp<;>omega
end Go.Proofs.YthoemdibbldndaaGreatDoor.St
namespace Go.Proofs.YthoemdibbldndaaGreatDoor
end Go.Proofs.YthoemdibbldndaaGreatDoor
namespace Go.Proofs.YthoemdibbldndaaGreatDoor.St
theorem iN(a b:List (List UInt8 × It)):a8 (a++b)=a8 a++a8 b:=by simp[a8]
def cz(ps:List (List UInt8 × It))(j:Nat):Nat:=(a8 (ps.take j)).length
theorem E8(ps:List (List UInt8 × It)):cz ps 0=0:=by simp[cz,a8]
theorem Qr(ps:List (List UInt8 × It)):cz ps ps.length=(a8 ps).length:=by unfold cz;rw[List.take_length]
theorem D9(ps:List (List UInt8 × It)){a b:Nat}(h:a<=b):ps.take b=ps.take a++(ps.take b).drop a:=by
 conv=>lhs;rw[<-List.take_append_drop a (ps.take b)]
 rw[List.take_take,Nat.min_eq_left h]
theorem Jd(ps:List (List UInt8 × It)){a b:Nat}(h:a<=b):cz ps b=cz ps a+(a8 ((ps.take b).drop a)).length:=by
 unfold cz
 conv=>lhs;rw[D9 ps h]
 rw[iN,List.length_append]
theorem Ow(ps:List (List UInt8 × It)){a b:Nat}(h:a<=b):cz ps a<=cz ps b:=by rw[Jd ps h];omega
theorem SX(ps:List (List UInt8 × It)){a:Nat}(h:a<=ps.length):cz ps a<=(a8 ps).length:=by rw[<-Qr];exact Ow ps h
theorem LC(ps:List (List UInt8 × It)){a b:Nat}(h:a<=b):((a8 ps).take (cz ps b)).drop (cz ps a)=a8 ((ps.take b).drop a):=by
 have e:a8 ps=a8 (ps.take a)++(a8 ((ps.take b).drop a)++a8 (ps.drop b)):=by
  conv=>lhs;rw[<-List.take_append_drop b ps,iN,D9 ps h,iN]
  rw[List.append_assoc]
 have h2:=Jd ps h;have h3:cz ps a=(a8 (ps.take a)).length:=rfl;rw[e,List.take_append,List.drop_append];rw[List.drop_of_length_le (by rw[List.length_take];omega),List.nil_append];rw[List.take_of_length_le (i:=cz ps b) (by omega),show cz ps a-(a8 (ps.take a)).length=0 by omega,List.drop_zero];rw[List.take_append,List.take_of_length_le (by omega)];rw[show cz ps b-(a8 (ps.take a)).length-(a8 ((ps.take b).drop a)).length=0 by omega];simp
theorem FP:∀(ps:List (List UInt8 × It)) (a:Nat),vO a a ps++[a+(a8 ps).length]=(List.range (ps.length+1)).map (λi=>a+cz ps i)
 | [],a=>by simp[vO,cz,a8]
 | p :: ps,a=>by
  rw[List.length_cons,List.range_succ_eq_map,List.map_cons,List.map_map,E8];have ih:=FP ps (a+p.1.length);have e:a8 (p :: ps)=p.1++a8 ps:=by simp[a8]
  rw[vO,List.cons_append,e,List.length_append,<-Nat.add_assoc,ih];congr 1;refine List.map_congr_left λi _=>?_
  simp only[Function.comp];have e2:cz (p :: ps) (i+1)=p.1.length+cz ps i:=by unfold cz;rw[List.take_succ_cons];simp[a8]
  rw[e2];omega
end Go.Proofs.YthoemdibbldndaaGreatDoor.St
namespace Go.Proofs.YthoemdibbldndaaGreatDoor
end Go.Proofs.YthoemdibbldndaaGreatDoor
namespace Go.Proofs.YthoemdibbldndaaGreatDoor.St
theorem Gz{b:List It}{x:It}(hg:ob x)(h1:x.1=1->x.2.1≠[]/\oh b=false)(hc:aQ x.1=true->∀y∈b,bE x y=false):bh b x=0:=by
 have gD:aQ x.1=true->b.any (bE x)=false:=λht=>by
  rw[Bool.eq_false_iff];intro e;obtain⟨y,hy,hy2⟩:=List.any_eq_true.1 e;rw[hc ht y hy]at hy2;cases hy2
 unfold bh;rcases hg with⟨g,g0⟩|⟨g,g1,g2⟩|⟨g,g1,g2,g3,g4⟩|⟨g,g1,g2,g3,g4⟩
 ·obtain⟨q1,q3⟩:=h1 g;rw[if_pos g,if_neg];rintro (e|e|⟨y,hy,hy1⟩)
  ·exact q1 e
  ·exact e g0
  unfold oh nw at q3;rw[hy]at q3;simp[hy1]at q3
 ·rw[if_neg (by omega),if_pos g,if_pos ⟨g1,g2⟩]
 ·rw[if_neg (by omega),if_neg (by omega),if_pos g,if_pos ⟨g1,g3,g4⟩,gD (by rw[rS];omega)];rfl
 rw[if_neg (by omega),if_neg (by omega),if_neg (by omega),if_pos g,if_pos ⟨g1,g3,g4⟩,gD (by rw[rS];omega)];rfl
theorem xM:∀(f b:List It),qL (oh b) f->(∀x∈f,ob x)->eX f->(∀y∈b,∀x∈f,aQ x.1=true->bE x y=false)->dc b f=0
 | [],_,_,_,_,_=>rfl
 | x :: f,b,h,hg,hc,hb=>by
  have CR:=List.pairwise_cons.1 hc;have jy:bh b x=0:=Gz (hg x (by simp)) (λh1=>⟨(h.1 h1).1,(h.1 h1).2.2⟩) λht y hy=>hb y hy x (by simp) ht
  rw[dc,if_neg (by simp[jy])];refine xM f (b++[x]) ?_ (λy hy=>hg y (by simp[hy])) CR.2 ?_
  ·have:oh (b++[x])=decide (x.1=1):=by unfold oh nw;simp
   rw[this];exact h.2
  intro y hy z hz ht;rcases List.mem_append.1 hy with hy|hy
  ·exact hb y hy z (by simp[hz]) ht
  simp at hy;subst hy;exact CR.1 z hz ht
theorem K6{f:List It}(h:qL false f)(hg:∀x∈f,ob x)(hc:eX f)(h1:f.length<=512)(h2:aA f<=1024):bN f=0:=by
 unfold bN;rw[if_neg (by omega)];exact xM f [] h hg hc λy hy=>by cases hy
theorem Oj{f:List It}(hg:∀x∈f,ob x):f.any (bu 1)=false:=by
 rw[Bool.eq_false_iff];intro e;obtain⟨x,hx,hb⟩:=List.any_eq_true.1 e;unfold bu at hb;simp only[Bool.and_eq_true,rS,Bool.or_eq_true,decide_eq_true_eq]at hb;obtain⟨ht,hb|hb⟩:=hb
 ·exact absurd rfl hb
 rcases hg x hx with⟨g,_⟩|⟨g,_⟩|⟨g,g1,g2,_⟩|⟨g,g1,g2,_⟩
 ·omega
 ·omega
 ·rw[g2]at hb;cases hb
 rw[qD g1,g2]at hb;cases hb
theorem OA{f:List It}(h:qL false f)(hg:∀x∈f,ob x)(hc:eX f)(h1:f.length<=512)(h2:aA f<=1024):bw 1 f=(f.flatMap (aK 1),0):=by
 unfold bw;rw[if_neg (by rw[K6 h hg hc h1 h2];simp),Oj hg];rfl
theorem Kp(l f:List It)(h:∀x∈l,x.1=1->x.2.2=0):(aM l).foldl aL f=l.foldl aL f:=by
 induction l generalizing f with
 | nil=>rfl
 | cons x l ih=>
  have hx:=h x (by simp);have hl:∀y∈l,y.1=1->y.2.2=0:=λy hy=>h y (by simp[hy])
  rw[px,List.foldl_append,List.foldl_cons,<-ih (aL f x) hl];congr 1
  split
  ·rename_i h1
   rw[I5];obtain⟨k,t,i⟩:=x;simp only at h1 hx |-;rw[h1,hx h1]
  rfl
theorem AT{f:List It}(h:Nm f)(h0:∀x∈f,x.1=1->x.2.2=0):(aM f).foldl aL []=f:=by rw[Kp f [] h0];exact h
end Go.Proofs.YthoemdibbldndaaGreatDoor.St
