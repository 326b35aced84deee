/- Plain: names, and small facts on bytes of strings. -/
set_option linter.all false
namespace Go.Proofs.YthoemdibbldndaaGreatDoor.St
def lD(c:UInt8):Bool:=decide (97<=c.toNat/\c.toNat<=122)
def fl(c:UInt8):Bool:=decide ((97<=c.toNat/\c.toNat<=122)\/(48<=c.toNat/\c.toNat<=57)\/c.toNat=45)
def aF:List UInt8->Bool
 | []=>false
 | c :: r=>decide (r.length<=23)&&(lD c&&r.all fl)
theorem drop_at(s:ByteArray)(k:Nat)(h:k<s.size):s.1.1.drop k=s[k] :: s.1.1.drop (k+1):=by
 rw[List.drop_eq_getElem_cons (by simpa using h)];rfl
theorem fF(s:ByteArray)(h:0<s.size):s.1.1=s[0] :: s.1.1.drop 1:=by
 have:=drop_at s 0 h;simpa using this
theorem aB(s:ByteArray):s.1.1.length=s.size:=by simp
theorem fR(s:ByteArray)(k:Nat)(h:s.size<=k):s.1.1.drop k=[]:=List.drop_of_length_le (by simpa using h)
theorem yo(s:ByteArray)(h:s.size=0):aF s.1.1=false:=by
 have:s.1.1=[]:=List.eq_nil_of_length_eq_zero (by simpa using h)
 rw[this];rfl
theorem Bx(s:ByteArray)(h:24<s.size):aF s.1.1=false:=by
 rw[fF s (by omega),aF];have:¬(s.1.1.drop 1).length<=23:=by simp;omega
 rw[decide_eq_false this];rfl
theorem Bw(s:ByteArray)(h:0<s.size)(hc:lD s[0]=false):aF s.1.1=false:=by
 rw[fF s h,aF,hc];simp
theorem By(s:ByteArray)(h:0<s.size)(T2:s.size<=24)(hc:lD s[0]=true):aF s.1.1=(s.1.1.drop 1).all fl:=by
 have e:decide ((s.1.1.drop 1).length<=23)=true:=decide_eq_true (by simp;omega);rw[fF s h]
 show(decide ((s.1.1.drop 1).length<=23)&&(lD s[0]&&(s.1.1.drop 1).all fl))=_
 rw[e,hc];simp
theorem CX(s:ByteArray)(k:Nat)(h:k<s.size):(s.1.1.drop k).all fl=(fl s[k]&&(s.1.1.drop (k+1)).all fl):=by
 rw[drop_at s k h,List.all_cons]
theorem ng:∀(m l:List UInt8),(l.take m.length==m)=m.isPrefixOf l
 | [],l=>by simp
 | c :: m,[]=>by simp[List.isPrefixOf]
 | c :: m,d :: l=>by
  rw[List.length_cons,List.take_succ_cons,List.isPrefixOf,<-ng m l];have e:(d==c)=(c==d):=by rw[Bool.eq_iff_iff,beq_iff_eq,beq_iff_eq];exact eq_comm
  show(d==c&&(l.take m.length==m))=(c==d&&(l.take m.length==m))
  rw[e]
theorem wJ(m l:List UInt8)(h:l.length<m.length):m.isPrefixOf l=false:=by
 rw[<-ng,beq_eq_false_iff_ne];intro e;have:=congrArg List.length e
 simp at this;omega
def cR(l:List UInt8):Option (List UInt8 × Nat):=
 let n:=(l.drop 1).takeWhile (λc=>decide (c.toNat≠125))
 if decide (n.length+1<l.length)&&aF n then some (n,n.length+2)else none
def cx:List UInt8->Option (Int × List UInt8 × Nat)
 | []=>none
 | c :: r=>
  if c.toNat=34 then(if([34,34]:List UInt8).isPrefixOf (c :: r)then some (1,[34],2)else none)
  else if c.toNat=123 then(if([123,123]:List UInt8).isPrefixOf (c :: r)then some (1,[123],2)else(cR (c :: r)).map λx=>(5,x.1,x.2))
  else some (1,[c],1)
end Go.Proofs.YthoemdibbldndaaGreatDoor.St
namespace Go.Proofs.YthoemdibbldndaaGreatDoor.St
abbrev It:=Int × List UInt8 × Int
def aK(f:List It)(x:It):List It:=
 if x.1=1 then
  if x.2.1=[]then f else
  match f.getLast? with
  | some y=>if y.1=1 then f.dropLast++[(1,y.2.1++x.2.1,0)]else f++[(1,x.2.1,0)]
  | none=>f++[(1,x.2.1,0)]
 else f++[x]
def bI(f:List It):List It:=f.foldl aK []
theorem dU(x:It):aK [] x=if x.1=1 then if x.2.1=[]then[]else[(1,x.2.1,0)]else[x]:=by
 unfold aK;split
 ·rfl
 rfl
theorem cN(f:List It)(y x:It):aK (f++[y]) x=if x.1=1 then if x.2.1=[]then f++[y]else if y.1=1 then f++[(1,y.2.1++x.2.1,0)]else f++[y]++[(1,x.2.1,0)]else f++[y]++[x]:=by
 unfold aK;simp only[List.getLast?_append,List.getLast?_singleton,Option.some_or,List.dropLast_concat]
theorem ek(f:List It)(x:It):bI (f++[x])=aK (bI f) x:=by unfold bI;rw[List.foldl_append];rfl
theorem cL{α:Type}(l:List α):l=[]\/∃a b,l=a++[b]:=by
 rcases List.eq_nil_or_concat l with h|⟨a,b,h⟩
 ·exact .inl h
 exact .inr ⟨a,b,by simpa using h⟩
theorem gN(f:List It)(x:It):(aK f x).length<=f.length+1/\f.length<=(aK f x).length:=by
 rcases cL f with rfl|⟨a,b,rfl⟩
 ·rw[dU];repeat' split
  all_goals simp
 rw[cN];repeat' split
 all_goals simp
theorem vA:∀(n:Nat) (f:List It),f.length=n->(bI f).length<=n
 | 0,f,h=>by rw[List.eq_nil_of_length_eq_zero h];simp[bI]
 | n+1,f,h=>by
  rcases cL f with rfl|⟨a,b,rfl⟩
  ·simp at h
  rw[ek];have h1:=(gN (bI a) b).1;have h2:=vA n a (by simpa using h);omega
theorem nR(f:List It):(bI f).length<=f.length:=vA _ f rfl
def Nm(f:List It):Prop:=bI f=f
theorem nQ:Nm []:=rfl
theorem Gw{f:List It}{y:It}(h:Nm (f++[y])):Nm f/\(y.1=1->y.2.1≠[]/\y.2.2=0/\∀z,f.getLast?=some z->z.1≠1):=by
 unfold Nm at h;rw[ek]at h;have hl:=nR f;rcases cL (bI f)with h0|⟨a,b,h0⟩
 ·rw[h0,dU]at h
  by_cases h1:y.1=1
  ·rw[if_pos h1]at h
   by_cases h2:y.2.1=[]
   ·rw[if_pos h2]at h;simp at h
   rw[if_neg h2]at h
   have:f=[]:=by
    have h3:=congrArg List.length h;simp at h3;exact h3
   subst this;simp only[List.nil_append,List.cons.injEq,and_true]at h;exact⟨rfl,λ_=>⟨h2,by rw[<-h],λz hz=>by simp at hz⟩⟩
  rw[if_neg h1]at h
  have:f=[]:=by
   have h3:=congrArg List.length h;simp at h3;exact h3
  subst this;exact⟨rfl,λh2=>absurd h2 h1⟩
 rw[h0,cN]at h;rw[h0]at hl;simp at hl
 by_cases h1:y.1=1
 ·rw[if_pos h1]at h
  by_cases h2:y.2.1=[]
  ·rw[if_pos h2]at h;have h3:=congrArg List.length h;simp at h3;omega
  rw[if_neg h2]at h
  by_cases h4:b.1=1
  ·rw[if_pos h4]at h;have h3:=congrArg List.length h;simp at h3;omega
  rw[if_neg h4]at h;have h5:=List.append_inj' h rfl;have h6:f=a++[b]:=h5.1.symm;simp only[List.cons.injEq,and_true]at h5;refine⟨by unfold Nm;rw[h0,h6],λ_=>⟨h2,by rw[<-h5.2],λz hz=>?_⟩⟩;rw[h6]at hz;simp at hz;rw[<-hz];exact h4
 rw[if_neg h1]at h;have h5:=List.append_inj' h rfl;exact⟨by unfold Nm;rw[h0,h5.1],λh2=>absurd h2 h1⟩
theorem eJ{f:List It}(h:Nm f)(x:It):Nm (aK f x):=by
 have hn:=h;unfold Nm at h;rcases cL f with rfl|⟨a,b,rfl⟩
 ·rw[dU]
  by_cases h1:x.1=1
  ·rw[if_pos h1]
   by_cases h2:x.2.1=[]
   ·rw[if_pos h2];rfl
   rw[if_neg h2];unfold Nm bI;simp[aK,h2]
  rw[if_neg h1];unfold Nm bI;simp[aK,h1]
 rw[cN]
 by_cases h1:x.1=1
 ·rw[if_pos h1]
  by_cases h2:x.2.1=[]
  ·rw[if_pos h2];exact hn
  rw[if_neg h2]
  by_cases h4:b.1=1
  ·rw[if_pos h4];obtain⟨ha,hb⟩:=Gw hn;obtain⟨hb1,_,hb3⟩:=hb h4;unfold Nm at ha |-;rw[ek,ha];rcases cL a with rfl|⟨a',b',rfl⟩
   ·rw[dU];simp[hb1]
   rw[cN];have:=hb3 b' (by simp)
   simp[this,hb1]
  rw[if_neg h4];unfold Nm;rw[ek,h,cN];simp[h4,h2]
 rw[if_neg h1];unfold Nm;rw[ek,h,cN];simp[h1]
abbrev El:=Option (Int × List UInt8 × Nat)
def dec(E:List UInt8->El):Nat->List UInt8->Nat->Nat->List It->List Nat->List It × List Nat × Nat × Int
 | 0,_,_,done,f,cuts=>(f,cuts++[done],0,0)
 | fuel+1,l,at',done,f,cuts=>
  if l=[]then(f,cuts++[done],0,0)else
  match E l with
  | none=>([],[],at',2)
  | some (k,t,n)=>
   if k=0 then dec E fuel (l.drop n) (at'+n) done f cuts else
   if 512<(aK f (k,t,0)).length\/1024<=cuts.length then([],[],at',3)else
   dec E fuel (l.drop n) (at'+n) (at'+n) (aK f (k,t,0)) (cuts++[done])
def cm(t:List UInt8):List It:=if t=[]then[]else[(1,t,0)]
def fK(f:List It):Prop:=∀z,f.getLast?=some z->z.1≠1
theorem rQ{f:List It}{t:List UInt8}(h:fK f)(c:UInt8):aK (f++cm t) (1,[c],0)=f++cm (t++[c]):=by
 unfold cm
 by_cases ht:t=[]
 ·subst ht;simp only[if_true,List.append_nil,List.nil_append];rw[if_neg (by simp)];rcases cL f with rfl|⟨a,b,rfl⟩
  ·rw[dU];rfl
  rw[cN];have:=h b (by simp)
  simp[this]
 rw[if_neg ht,if_neg (by simp),cN];simp
theorem rR{f:List It}(k:Int)(t:List UInt8)(h:k≠1):aK f (k,t,0)=f++[(k,t,0)]:=by unfold aK;rw[if_neg h]
theorem my(f:List It)(k:Int)(t:List UInt8)(i:Int)(h:k≠1):fK (f++[(k,t,i)]):=by
 intro z hz;simp at hz;rw[<-hz];exact h
theorem qm:fK []:=by intro z hz;simp at hz
theorem vk(t:List UInt8):(cm t).length=if t=[]then 0 else 1:=by unfold cm;split<;>simp
def aT(ni nt nc:Nat)(text:Bool):Bool:=decide (512<ni+(if 0<nt then 1 else 0)+(if text=false\/nt=0 then 1 else 0)\/1024<nc+1)
theorem lQ{f:List It}{t:List UInt8}(h:fK f)(c:UInt8)(nc:Nat):(512<(aK (f++cm t) (1,[c],0)).length\/1024<=nc) ↔ aT f.length t.length nc true=true:=by
 rw[rQ h,List.length_append,vk,if_neg (by simp)];unfold aT;rw[decide_eq_true_iff];rcases Nat.eq_zero_or_pos t.length with h0|h0
 ·rw[if_neg (by omega),if_pos (by simp[h0])];omega
 rw[if_pos h0,if_neg (by simp;intro e;simp[e]at h0)];omega
theorem kc{f:List It}{t:List UInt8}(k:Int)(s:List UInt8)(nc:Nat)(hk:k≠1):(512<(aK (f++cm t) (k,s,0)).length\/1024<=nc) ↔ aT f.length t.length nc false=true:=by
 rw[rR _ _ hk,List.length_append,List.length_append,vk];unfold aT;rw[decide_eq_true_iff];rcases Nat.eq_zero_or_pos t.length with h0|h0
 ·rw[if_pos (List.eq_nil_of_length_eq_zero h0),if_neg (by omega),if_pos (by simp)];simp;omega
 rw[if_neg (by intro e;simp[e]at h0),if_pos h0,if_pos (by simp)];simp;omega
end Go.Proofs.YthoemdibbldndaaGreatDoor.St
namespace Go.Proofs.YthoemdibbldndaaGreatDoor.St
def bD:List UInt8->Option Nat
 | []=>none
 | c :: r=>if c.toNat=34 then(match r with
   | []=>some 1
   | d :: r'=>if d.toNat=34 then(bD r').map (·+2)else some 1)else(bD r).map (·+1)
def fx(c:UInt8):Bool:=decide (c.toNat≠34/\c.toNat≠44/\c.toNat≠10)
def eh:List UInt8->Bool
 | []=>true
 | c :: _=>decide (c.toNat=44\/c.toNat=10)
def cV(l:List UInt8):Option (Nat × Bool):=
 match l with
 | []=>some (0,false)
 | c :: r=>if c.toNat=34 then(match bD r with
   | none=>none
   | some n=>if eh (r.drop n)then some (n+1,true)else none)
  else
   let n:=(l.takeWhile fx).length
   if eh (l.drop n)then some (n,false)else none
abbrev Pt:=Bool × List UInt8 × List UInt8
def aZ(d:List UInt8)(a b:Nat):List UInt8:=(d.take b).drop a
abbrev PS:=List Pt × Nat
def bk(d:List UInt8)(s:PS)(a b:Nat)(key:List UInt8):PS:=(s.1++[(false,[],aZ d s.2 a),(true,key,aZ d a b)],b)
def cG(d:List UInt8)(s:PS):List Pt:=s.1++[(false,[],d.drop s.2)]
def fk(d:List UInt8):Nat->Nat->Nat->Nat->Nat->Except (Nat × Int) (Nat × Nat × Nat × Nat)
 | 0,at',_,_,_=>.error (at',2)
 | fuel+1,at',n,texts,au=>
  match cV (d.drop at')with
  | none=>.error (at',2)
  | some (k,_)=>
   let Uq:Bool:=aZ d at' (at'+k)==[116,101,120,116]
   let E1:=if Uq then texts+1 else texts
   let Mh:=if Uq then n else au
   match d.drop (at'+k)with
   | []=>.ok (at'+k,n+1,E1,Mh)
   | c :: _=>if c.toNat=10 then .ok (at'+k,n+1,E1,Mh)else fk d fuel (at'+k+1) (n+1) E1 Mh
def dw(dE:List UInt8->Nat × Int)(d:List UInt8)(W C:Nat)(key:List UInt8):Nat->Nat->Nat->PS->Except (Nat × Int) (Nat × Nat × PS)
 | 0,at',_,_=>.error (at',2)
 | fuel+1,at',n,s=>
  match cV (d.drop at')with
  | none=>.error (at',2)
  | some (k,q)=>
   if W<=n\/(n=C/\q=false)then .error (at',2)else
   if n=C/\(dE (aZ d (at'+1) (at'+k-1))).2≠0 then .error (at'+1+(dE (aZ d (at'+1) (at'+k-1))).1,(dE (aZ d (at'+1) (at'+k-1))).2)else
   let s':=if n=C then bk d s (at'+1) (at'+k-1) key else s
   match d.drop (at'+k)with
   | []=>.ok (at'+k,n+1,s')
   | c :: _=>if c.toNat=10 then .ok (at'+k,n+1,s')else dw dE d W C key fuel (at'+k+1) (n+1) s'
def cF(dE:List UInt8->Nat × Int)(dig:Nat->List UInt8)(d:List UInt8)(W C:Nat):Nat->Nat->Nat->PS->Except (Nat × Int) PS
 | 0,_,_,s=>.ok s
 | fuel+1,at',r,s=>
  if d.length<=at' then .ok s else
  match dw dE d W C (dig r) (d.length+1) at' 0 s with
  | .error x=>.error x
  | .ok (e,n,s')=>if n<W then .error (at',2)else cF dE dig d W C fuel (e+1) (r+1) s'
def eM(dE:List UInt8->Nat × Int)(dig:Nat->List UInt8)(d:List UInt8):List Pt × Nat × Int:=
 if 65536<d.length then([],0,3)else
 match fk d (d.length+1) 0 0 0 0 with
 | .error (a,e)=>([],a,e)
 | .ok (e,n,texts,au)=>
  if texts=0 then([],0,6)else
  if 1<texts then([],0,5)else
  match cF dE dig d n au (d.length+1) (e+1) 1 ([],0)with
  | .error (a,e)=>([],a,e)
  | .ok s=>(cG d s,0,0)
end Go.Proofs.YthoemdibbldndaaGreatDoor.St
namespace Go.Proofs.YthoemdibbldndaaGreatDoor.St
def uW(E:List UInt8->El):Prop:=∀l k t n,E l=some (k,t,n)->1<=n/\n<=l.length
def H9(f:List It)(x:It)(cuts:List Nat):Prop:=512<(aK f x).length\/1024<=cuts.length
def wH(a d:Nat):List (List UInt8 × It)->List Nat
 | []=>[]
 | p :: ps=>d :: wH (a+p.1.length) (a+p.1.length) ps
def a6(ps:List (List UInt8 × It)):List UInt8:=ps.flatMap (·.1)
def fJ(ps:List (List UInt8 × It)):List It:=ps.map (·.2)
theorem B8(l:List It)(f:List It):f.length<=(l.foldl aK f).length:=by
 induction l generalizing f with
 | nil=>exact Nat.le_refl _
 | cons x l ih=>exact Nat.le_trans (gN f x).2 (ih _)
def aE(f:List It):List It:=f.flatMap λx=>if x.1=1 then x.2.1.map (λc=>((1:Int),[c],(0:Int)))else[x]
theorem rP(t s:List UInt8)(f:List It)(hs:s≠[]):(t.map (λc=>((1:Int),[c],(0:Int)))).foldl aK (f++[(1,s,0)])=f++[(1,s++t,0)]:=by
 induction t generalizing s with
 | nil=>simp
 | cons c t ih=>
  simp only[List.map_cons,List.foldl_cons];rw[cN];simp only[if_true,List.cons_ne_nil,if_false];rw[ih (s++[c]) (by simp)];simp
theorem JN(f:List It)(t:List UInt8):(t.map (λc=>((1:Int),[c],(0:Int)))).foldl aK f=aK f (1,t,0):=by
 cases t with
 | nil=>simp[aK]
 | cons c t=>
  simp only[List.map_cons,List.foldl_cons];rcases cL f with rfl|⟨g,y,rfl⟩
  ·rw[dU,dU];simp only[if_true,List.cons_ne_nil,if_false];exact rP t [c] [] (by simp)
  rw[cN,cN];simp only[if_true,List.cons_ne_nil,if_false]
  split
  ·rw[rP t _ _ (by simp)];simp
  rw[rP t [c] (g++[y]) (by simp)];simp
end Go.Proofs.YthoemdibbldndaaGreatDoor.St
namespace Go.Proofs.YthoemdibbldndaaGreatDoor.St
def nameOf(s:List UInt8):List UInt8:=s.takeWhile (λc=>decide (c.toNat≠32))
def fQ(c:UInt8):Bool:=decide (32<=c.toNat/\c.toNat<=126/\c.toNat≠60/\c.toNat≠62/\c.toNat≠123/\c.toNat≠125)
def aM(s:List UInt8):Bool:=
 decide (s.length<=64)&&(s.all fQ&&(aF (nameOf s)&&((decide ((nameOf s).length=s.length) || decide ((nameOf s).length+1<s.length))&&(s.getLast? != some 47))))
def aQ(k:Int):Bool:=decide (k=2\/k=3\/k=4)
def bH(x y:It):Bool:=aQ y.1&&(decide (y.2.2=x.2.2)&&(decide (x.1≠3) || (decide (y.1≠2) || decide (nameOf y.2.1≠x.2.1))))
def bi(before:List It)(x:It):Int:=
 if x.1=1 then(if x.2.1=[]\/x.2.2≠0\/(∃y,before.getLast?=some y/\y.1=1)then 1 else 0)
 else if x.1=5 then(if aF x.2.1=true/\x.2.2=0 then 0 else 1)
 else if x.1=2\/x.1=4 then(if aM x.2.1=true/\1<=x.2.2/\x.2.2<=999 then(if before.any (bH x)then 7 else 0)else 1)
 else if x.1=3 then(if aF x.2.1=true/\1<=x.2.2/\x.2.2<=999 then(if before.any (bH x)then 7 else 0)else 1)
 else 1
def aV(x:It):Nat:=if x.1=1 then x.2.1.length else 1
def aA(f:List It):Nat:=(f.map aV).sum
def db:List It->List It->Int
 | _,[]=>0
 | b,x :: r=>if bi b x≠0 then bi b x else db (b++[x]) r
def bP(f:List It):Int:=if 512<f.length\/1024<aA f then 3 else db [] f
theorem gM(f:List It)(x:It):aA (f++[x])=aA f+aV x:=by simp[aA]
def aR(a b:Nat):Nat->List It->List It
 | _,[]=>[]
 | at',x :: r=>
  (if x.1=1 then(if max a at' - at'<min b (at'+x.2.1.length)-at' then[(1,(x.2.1.take (min b (at'+x.2.1.length)-at')).drop (max a at' - at'),x.2.2)]else[])
   else(if a<=at'/\at'<b then[x]else[]))++aR a b (at'+aV x) r
theorem vH(a b:Nat)(f:List It)(x:It):∀at',aR a b at' (f++[x])=aR a b at' f++aR a b (at'+aA f) [x]:=by
 induction f with
 | nil=>intro at';simp[aR,aA]
 | cons y f ih=>
  intro at';rw[List.cons_append,aR,aR,ih];rw[show at'+aA (y :: f)=at'+aV y+aA f by simp[aA];omega];simp[List.append_assoc]
def bE(s:List UInt8):Bool:=decide (s=[112]\/s=[104]\/s=[108,105]\/s=[116,100]\/s=[116,105,116,108,101])
def bl(fmt:Int)(c:UInt8):List UInt8:=
 if fmt=1 then(if c.toNat=60 then[38,108,116,59]else if c.toNat=38 then[38,97,109,112,59]else if c.toNat=123 then[38,108,98,59]else[c])
 else if fmt=2 then(if c.toNat=10 then[92,110]else if c.toNat=9 then[92,116]else if c.toNat=13 then[92,114]else if c.toNat=92\/c.toNat=123 then[92,c]else[c])
 else(if c.toNat=34\/c.toNat=123 then[c,c]else[c])
def aL(fmt:Int)(x:It):List UInt8:=
 if x.1=1 then x.2.1.flatMap (bl fmt)else if x.1=2 then[60]++x.2.1++[62]else if x.1=3 then[60,47]++x.2.1++[62]else if x.1=4 then[60]++x.2.1++[47,62]else if x.1=5 then[123]++x.2.1++[125]else[]
def bA(fmt:Int)(x:It):Bool:=aQ x.1&&(decide (fmt≠1) || bE (nameOf x.2.1))
def bn(fmt:Int)(f:List It):List UInt8 × Int:=
 if bP f≠0 then([],bP f)else if f.any (bA fmt)then([],7)else(f.flatMap (aL fmt),0)
theorem lu(fmt:Int)(c:UInt8):1<=(bl fmt c).length/\(bl fmt c).length<=5:=by
 unfold bl
 repeat' split
 all_goals simp
end Go.Proofs.YthoemdibbldndaaGreatDoor.St
namespace Go.Proofs.YthoemdibbldndaaGreatDoor
def aY(f:List St.It):Nat:=(f.map λx=>x.2.1.length).sum
theorem cA(f:List St.It)(x:St.It):aY (f++[x])=aY f+x.2.1.length:=by simp[aY]
theorem ik(f:List St.It)(x:St.It):aY (St.aK f x)<=aY f+x.2.1.length:=by
 rcases St.cL f with rfl|⟨a,b,rfl⟩
 ·rw[St.dU];repeat' split
  all_goals simp[aY]
 rw[St.cN];repeat' split
 all_goals simp[aY]<;>omega
theorem jB(f:List St.It)(k:Nat)(h:k<f.length):aY (f.take (k+1))=aY (f.take k)+f[k].2.1.length:=by
 rw[List.take_add_one,List.getElem?_eq_getElem h];exact cA _ _
theorem fO(f:List St.It)(k:Nat):aY (f.take k)<=aY f:=by
 have:aY f=aY (f.take k)+aY (f.drop k):=by
  conv=>lhs;rw[<-List.take_append_drop k f]
  unfold aY;rw[List.map_append,List.sum_append]
 omega
theorem K6(f:List St.It)(k:Nat)(h:k<f.length):St.bI (f.take (k+1))=St.aK (St.bI (f.take k)) f[k]:=by
 rw[List.take_add_one,List.getElem?_eq_getElem h];exact St.ek _ _
end Go.Proofs.YthoemdibbldndaaGreatDoor
namespace Go.Proofs.YthoemdibbldndaaGreatDoor.St
def stepT(op:List It)(c:Nat)(k:Int)(t:List UInt8):Option (Int × List It × Nat):=
 if k=3 then(match op.getLast? with|none=>none|some o=>if nameOf o.2.1=t then some (o.2.2,op.dropLast,c)else none)
 else if k=2 then some ((c:Int)+1,op++[(2,t,(c:Int)+1)],c+1)
 else if k=4 then some ((c:Int)+1,op,c+1)
 else some (0,op,c)
abbrev gy:=List It × List Nat × Nat × Int
def jK(a d:Nat)(f:List It)(cuts:List Nat)(op:List It):gy:=if op=[]then(f,cuts++[d],0,0)else([],[],a,7)
def dv(E:List UInt8->El):Nat->List UInt8->Nat->Nat->List It->List Nat->List It->Nat->gy
 | 0,_,a,d,f,cuts,op,_=>jK a d f cuts op
 | fuel+1,l,a,d,f,cuts,op,c=>
  if l=[]then jK a d f cuts op else
  match E l with
  | none=>([],[],a,2)
  | some (k,t,n)=>
   if k=0 then dv E fuel (l.drop n) (a+n) d f cuts op c else
   match stepT op c k t with
   | none=>([],[],a,7)
   | some (i,cJ,c')=>
    if 512<(aK f (k,t,i)).length\/1024<=cuts.length then([],[],a,3)else
    dv E fuel (l.drop n) (a+n) (a+n) (aK f (k,t,i)) (cuts++[d]) cJ c'
section
variable {E:List UInt8->El} {l:List UInt8} {k:Int} {t:List UInt8} {n:Nat} {op cJ:List It} {c c':Nat} {i:Int}
theorem gm(fuel a d:Nat)(f:List It)(cuts:List Nat):dv E fuel [] a d f cuts op c=jK a d f cuts op:=by cases fuel<;>simp[dv]
theorem ka(fuel a d:Nat)(f:List It)(cuts:List Nat)(h0:l≠[])(h:E l=none):dv E (fuel+1) l a d f cuts op c=([],[],a,2):=by
 rw[dv,if_neg h0,h]
theorem lO(fuel a d:Nat)(f:List It)(cuts:List Nat)(h0:l≠[])(h:E l=some (0,t,n)):dv E (fuel+1) l a d f cuts op c=dv E fuel (l.drop n) (a+n) d f cuts op c:=by
 rw[dv,if_neg h0,h];simp only[if_true]
theorem mS(fuel a d:Nat)(f:List It)(cuts:List Nat)(h0:l≠[])(h:E l=some (k,t,n))(hk:k≠0)(hs:stepT op c k t=none):dv E (fuel+1) l a d f cuts op c=([],[],a,7):=by
 rw[dv,if_neg h0,h];simp only;rw[if_neg hk,hs]
theorem j9(fuel a d:Nat)(f:List It)(cuts:List Nat)(h0:l≠[])(h:E l=some (k,t,n))(hk:k≠0)(hs:stepT op c k t=some (i,cJ,c'))(hf:512<(aK f (k,t,i)).length\/1024<=cuts.length):dv E (fuel+1) l a d f cuts op c=([],[],a,3):=by
 rw[dv,if_neg h0,h];simp only;rw[if_neg hk,hs];simp only;rw[if_pos hf]
theorem jh(fuel a d:Nat)(f:List It)(cuts:List Nat)(h0:l≠[])(h:E l=some (k,t,n))(hk:k≠0)(hs:stepT op c k t=some (i,cJ,c'))(hf:¬(512<(aK f (k,t,i)).length\/1024<=cuts.length)) :
  dv E (fuel+1) l a d f cuts op c=dv E fuel (l.drop n) (a+n) (a+n) (aK f (k,t,i)) (cuts++[d]) cJ c':=by
 rw[dv,if_neg h0,h];simp only;rw[if_neg hk,hs];simp only;rw[if_neg hf]
end
theorem pZ{E:List UInt8->El}(hE:uW E):∀(fuel fuel':Nat) (l:List UInt8) (a d:Nat) (f:List It) (cuts:List Nat) (op:List It) (c:Nat),l.length<=fuel->l.length<=fuel'->dv E fuel l a d f cuts op c=dv E fuel' l a d f cuts op c
 | 0,fuel',l,a,d,f,cuts,op,c,h,_=>by
  have:l=[]:=List.eq_nil_of_length_eq_zero (by omega)
  subst this;rw[gm,gm]
 | fuel+1,0,l,a,d,f,cuts,op,c,_,h=>by
  have:l=[]:=List.eq_nil_of_length_eq_zero (by omega)
  subst this;rw[gm,gm]
 | fuel+1,fuel'+1,l,a,d,f,cuts,op,c,h,h'=>by
  by_cases h0:l=[]
  ·subst h0;rw[gm,gm]
  cases hs:E l with
  | none=>rw[ka _ _ _ _ _ h0 hs,ka _ _ _ _ _ h0 hs]
  | some x=>
   obtain⟨k,t,n⟩:=x;have hn:=hE _ _ _ _ hs;have hl:(l.drop n).length<=fuel/\(l.drop n).length<=fuel':=by simp;omega
   by_cases hk:k=0
   ·subst hk;rw[lO _ _ _ _ _ h0 hs,lO _ _ _ _ _ h0 hs];exact pZ hE fuel fuel' _ _ _ _ _ _ _ hl.1 hl.2
   cases ht:stepT op c k t with
   | none=>rw[mS _ _ _ _ _ h0 hs hk ht,mS _ _ _ _ _ h0 hs hk ht]
   | some y=>
    obtain⟨i,cJ,c'⟩:=y
    by_cases hf:512<(aK f (k,t,i)).length\/1024<=cuts.length
    ·rw[j9 _ _ _ _ _ h0 hs hk ht hf,j9 _ _ _ _ _ h0 hs hk ht hf]
    rw[jh _ _ _ _ _ h0 hs hk ht hf,jh _ _ _ _ _ h0 hs hk ht hf];exact pZ hE fuel fuel' _ _ _ _ _ _ _ hl.1 hl.2
def eP(E:List UInt8->El)(l:List UInt8)(a d:Nat)(f:List It)(cuts:List Nat)(op:List It)(c:Nat):gy:=dv E l.length l a d f cuts op c
theorem AL(E:List UInt8->El)(a d:Nat)(f:List It)(cuts:List Nat)(op:List It)(c:Nat):eP E [] a d f cuts op c=jK a d f cuts op:=gm _ _ _ _ _
theorem GQ{l:List UInt8}(h0:l≠[]):∃m,l.length=m+1:=⟨l.length-1,by cases l;exact absurd rfl h0;simp⟩
section
variable {E:List UInt8->El} {l:List UInt8} {k:Int} {t:List UInt8} {n:Nat} {op cJ:List It} {c c':Nat} {i:Int}
theorem Ht(hE:uW E)(a d:Nat)(f:List It)(cuts:List Nat)(h0:l≠[])(h:E l=some (k,t,n))(hk:k≠0)(hs:stepT op c k t=some (i,cJ,c'))(hf:¬H9 f (k,t,i) cuts) :
  eP E l a d f cuts op c=eP E (l.drop n) (a+n) (a+n) (aK f (k,t,i)) (cuts++[d]) cJ c':=by
 unfold eP;obtain⟨m,hm⟩:=GQ h0;have hn:=hE _ _ _ _ h;rw[hm,jh _ _ _ _ _ h0 h hk hs hf];exact pZ hE _ _ _ _ _ _ _ _ _ (by simp;omega) (by simp)
end
theorem rW{E:List UInt8->El}(hE:∀l k t n,E l=some (k,t,n)->k=0\/k=1\/k=5):∀(fuel:Nat) (l:List UInt8) (a d:Nat) (f:List It) (cuts:List Nat) (c:Nat),dv E fuel l a d f cuts [] c=dec E fuel l a d f cuts
 | 0,l,a,d,f,cuts,c=>by simp[dv,dec,jK]
 | fuel+1,l,a,d,f,cuts,c=>by
  by_cases h0:l=[]
  ·subst h0;rw[gm];simp[dec,jK]
  cases hs:E l with
  | none=>rw[ka _ _ _ _ _ h0 hs];rw[dec,if_neg h0,hs]
  | some x=>
   obtain⟨k,t,n⟩:=x
   by_cases hk:k=0
   ·subst hk;rw[lO _ _ _ _ _ h0 hs,rW hE fuel];rw[dec,if_neg h0,hs];simp only[if_true]
   have ht:stepT [] c k t=some (0,[],c):=by
    have:=hE _ _ _ _ hs
    unfold stepT;rw[if_neg (by omega),if_neg (by omega),if_neg (by omega)]
   by_cases hf:512<(aK f (k,t,0)).length\/1024<=cuts.length
   ·rw[j9 _ _ _ _ _ h0 hs hk ht hf];rw[dec,if_neg h0,hs];simp only;rw[if_neg hk,if_pos hf]
   rw[jh _ _ _ _ _ h0 hs hk ht hf,rW hE fuel];rw[dec,if_neg h0,hs];simp only;rw[if_neg hk,if_neg hf]
def j5(E:List UInt8->El)(b:List UInt8)(x:It):Prop:=b≠[]/\x.1≠0/\∀rest,E (b++rest)=some (x.1,x.2.1,b.length)
def fy:List It->List It->Nat->Option (List It × Nat)
 | [],op,c=>some (op,c)
 | p :: ps,op,c=>match stepT op c p.1 p.2.1 with
  | none=>none
  | some (i,cJ,c')=>if i=p.2.2 then fy ps cJ c' else none
theorem kM:∀(ps qs:List It) (op:List It) (c:Nat) {cJ:List It} {c':Nat},fy ps op c=some (cJ,c')->fy (ps++qs) op c=fy qs cJ c'
 | [],qs,op,c,cJ,c',h=>by simp only[fy,Option.some.injEq,Prod.mk.injEq]at h;obtain⟨rfl,rfl⟩:=h;rfl
 | p :: ps,qs,op,c,cJ,c',h=>by
  rw[List.cons_append,fy];rw[fy]at h;cases hs:stepT op c p.1 p.2.1 with
  | none=>rw[hs]at h;cases h
  | some y=>
   obtain⟨i,yr,c2⟩:=y;rw[hs]at h;simp only at h |-
   split at h
   ·rename_i hi
    rw[if_pos hi];exact kM ps qs yr c2 h
   cases h
end Go.Proofs.YthoemdibbldndaaGreatDoor.St
namespace Go.Proofs.YthoemdibbldndaaGreatDoor.St
def df(l:List UInt8):List UInt8:=(l.drop 1).takeWhile (λc=>decide (c.toNat≠62))
def eX(t:List UInt8):Option (Int × List UInt8):=
 if t.head?=some 47 then(if aF (t.drop 1)then some (3,t.drop 1)else none)
 else if t.getLast?=some 47 then(if aM t.dropLast then some (4,t.dropLast)else none)
 else if aM t then some (2,t)else none
def gh(l:List UInt8):El:=if(df l).length+1<l.length then(eX (df l)).map λx=>(x.1,x.2,(df l).length+2)else none
def sG(l:List UInt8):El:=
 if([38,108,116,59]:List UInt8).isPrefixOf l then some (1,[60],4)
 else if([38,103,116,59]:List UInt8).isPrefixOf l then some (1,[62],4)
 else if([38,97,109,112,59]:List UInt8).isPrefixOf l then some (1,[38],5)
 else if([38,108,98,59]:List UInt8).isPrefixOf l then some (1,[123],4)
 else if([38,114,98,59]:List UInt8).isPrefixOf l then some (1,[125],4)else none
def uv(l:List UInt8):El:=match gh l with
 | none=>none
 | some (k,t,n)=>if bE (nameOf t)then none else some (k,t,n)
def b7:List UInt8->El
 | []=>none
 | c :: r=>if c.toNat=60 then uv (c :: r)else if c.toNat=38 then sG (c :: r)else if c.toNat=123 then(cR (c :: r)).map λx=>(5,x.1,x.2)else some (1,[c],1)
theorem oD{c:UInt8}{r:List UInt8}(h:c.toNat=60):b7 (c :: r)=uv (c :: r):=by rw[b7,if_pos h]
theorem iZ{c:UInt8}{r:List UInt8}(h:c.toNat=38):b7 (c :: r)=sG (c :: r):=by rw[b7,if_neg (by omega),if_pos h]
theorem lE{c:UInt8}{r:List UInt8}(h:c.toNat=123):b7 (c :: r)=(cR (c :: r)).map λx=>(5,x.1,x.2):=by rw[b7,if_neg (by omega),if_neg (by omega),if_pos h]
theorem kl{c:UInt8}{r:List UInt8}(h:c.toNat≠60)(h2:c.toNat≠38)(h3:c.toNat≠123):b7 (c :: r)=some (1,[c],1):=by rw[b7,if_neg h,if_neg h2,if_neg h3]
theorem LI{t:List UInt8}{k:Int}{u:List UInt8}(h:eX t=some (k,u)):(k=2\/k=3\/k=4)/\u.length<=t.length:=by
 unfold eX at h
 split at h
 ·split at h
  ·simp only[Option.some.injEq,Prod.mk.injEq]at h;obtain⟨rfl,rfl⟩:=h;exact⟨by omega,by simp⟩
  cases h
 split at h
 ·split at h
  ·simp only[Option.some.injEq,Prod.mk.injEq]at h;obtain⟨rfl,rfl⟩:=h;exact⟨by omega,by simp⟩
  cases h
 split at h
 ·simp only[Option.some.injEq,Prod.mk.injEq]at h;obtain⟨rfl,rfl⟩:=h;exact⟨by omega,by omega⟩
 cases h
theorem kS{l:List UInt8}{k:Int}{t:List UInt8}{n:Nat}(h:gh l=some (k,t,n)):(k=2\/k=3\/k=4)/\2<=n/\n<=l.length/\t.length+2<=n:=by
 unfold gh at h
 split at h
 ·cases hq:eX (df l)with
  | none=>rw[hq]at h;cases h
  | some x=>
   obtain⟨k',u⟩:=x;rw[hq]at h;simp only[Option.map_some,Option.some.injEq,Prod.mk.injEq]at h;obtain⟨rfl,rfl,rfl⟩:=h;have:=LI hq
   exact⟨this.1,by omega,by omega,by omega⟩
 cases h
theorem zU{l:List UInt8}{k:Int}{t:List UInt8}{n:Nat}(h:sG l=some (k,t,n)):k=1/\1<=n/\n<=l.length/\t.length=1:=by
 unfold sG at h
 split at h
 ·rename_i hp
  simp only[Option.some.injEq,Prod.mk.injEq]at h;obtain⟨rfl,rfl,rfl⟩:=h;have:=(List.isPrefixOf_iff_prefix.1 hp).length_le
  exact⟨rfl,by omega,by simpa using this,rfl⟩
 split at h
 ·rename_i hp
  simp only[Option.some.injEq,Prod.mk.injEq]at h;obtain⟨rfl,rfl,rfl⟩:=h;have:=(List.isPrefixOf_iff_prefix.1 hp).length_le
  exact⟨rfl,by omega,by simpa using this,rfl⟩
 split at h
 ·rename_i hp
  simp only[Option.some.injEq,Prod.mk.injEq]at h;obtain⟨rfl,rfl,rfl⟩:=h;have:=(List.isPrefixOf_iff_prefix.1 hp).length_le
  exact⟨rfl,by omega,by simpa using this,rfl⟩
 split at h
 ·rename_i hp
  simp only[Option.some.injEq,Prod.mk.injEq]at h;obtain⟨rfl,rfl,rfl⟩:=h;have:=(List.isPrefixOf_iff_prefix.1 hp).length_le
  exact⟨rfl,by omega,by simpa using this,rfl⟩
 split at h
 ·rename_i hp
  simp only[Option.some.injEq,Prod.mk.injEq]at h;obtain⟨rfl,rfl,rfl⟩:=h;have:=(List.isPrefixOf_iff_prefix.1 hp).length_le
  exact⟨rfl,by omega,by simpa using this,rfl⟩
 cases h
theorem EV{l:List UInt8}{x:List UInt8 × Nat}(h:cR l=some x):2<=x.2/\x.2<=l.length/\x.1.length+2=x.2/\aF x.1=true:=by
 unfold cR at h;simp only[]at h
 split at h
 ·rename_i hq
  rw[Bool.and_eq_true,decide_eq_true_eq]at hq;simp only[Option.some.injEq]at h;subst h;exact⟨by simp,by simp only;omega,rfl,hq.2⟩
 cases h
theorem px{l:List UInt8}{k:Int}{t:List UInt8}{n:Nat}(h:b7 l=some (k,t,n)):(k=1\/k=2\/k=3\/k=4\/k=5)/\1<=n/\n<=l.length/\t.length<=n:=by
 match l,h with
 | c :: r,h=>
  by_cases lR:c.toNat=60
  ·rw[oD lR]at h;unfold uv at h;cases hq:gh (c :: r)with
   | none=>rw[hq]at h;cases h
   | some x=>
    obtain⟨k',t',n'⟩:=x;rw[hq]at h;simp only at h
    split at h
    ·cases h
    simp only[Option.some.injEq,Prod.mk.injEq]at h;obtain⟨rfl,rfl,rfl⟩:=h;have:=kS hq
    exact⟨by omega,by omega,this.2.2.1,by omega⟩
  by_cases qb:c.toNat=38
  ·rw[iZ qb]at h;have:=zU h
   exact⟨by omega,by omega,this.2.2.1,by omega⟩
  by_cases cU:c.toNat=123
  ·rw[lE cU]at h;cases hq:cR (c :: r)with
   | none=>rw[hq]at h;cases h
   | some x=>
    rw[hq]at h;simp only[Option.map_some,Option.some.injEq,Prod.mk.injEq]at h;obtain⟨rfl,rfl,rfl⟩:=h;have:=EV hq
    exact⟨by omega,by omega,this.2.1,by omega⟩
  rw[kl lR qb cU]at h;simp only[Option.some.injEq,Prod.mk.injEq]at h;obtain⟨rfl,rfl,rfl⟩:=h;exact⟨by omega,by omega,by simp,by simp⟩
theorem l6{t:List UInt8}(h:aM t=true):∀c∈t,c.toNat≠62/\c.toNat≠60:=by
 unfold aM at h;simp only[Bool.and_eq_true]at h;intro c hc;have:=List.all_eq_true.1 h.2.1 c hc
 simp only[fQ,decide_eq_true_eq]at this;omega
theorem rC{t:List UInt8}(h:aF t=true):∀c∈t,c.toNat≠62/\c.toNat≠60/\c.toNat≠125/\c.toNat≠32/\c.toNat≠47:=by
 cases t with
 | nil=>intro c hc;cases hc
 | cons d r=>
  rw[aF]at h;simp only[Bool.and_eq_true,decide_eq_true_eq,lD]at h;obtain⟨_,h1,h2⟩:=h;intro c hc;rcases List.mem_cons.1 hc with rfl|hc
  ·omega
  have:=List.all_eq_true.1 h2 c hc
  simp only[fl,decide_eq_true_eq]at this;omega
theorem MZ{t rest:List UInt8}(h:∀c∈t,c.toNat≠62):df ([60]++t++[62]++rest)=t:=by
 unfold df;have e:([60]++t++[62]++rest).drop 1=t++(62 :: rest):=by simp
 rw[e,List.takeWhile_append_of_pos (λc hc=>decide_eq_true (h c hc)),List.takeWhile_cons_of_neg (by simp)];simp
theorem yL{t rest:List UInt8}{k:Int}{u:List UInt8}(h:∀c∈t,c.toNat≠62)(hi:eX t=some (k,u)):gh ([60]++t++[62]++rest)=some (k,u,t.length+2):=by
 unfold gh;rw[MZ h,if_pos (by simp),hi];rfl
theorem l7{t:List UInt8}(h:aM t=true):t≠[]/\t.head?≠some 47/\t.getLast?≠some 47/\aF (nameOf t)=true:=by
 unfold aM at h;simp only[Bool.and_eq_true]at h;obtain⟨_,_,hn,_,hl⟩:=h;refine⟨?_,?_,by simpa using hl,hn⟩
 ·intro e;subst e;simp[nameOf,aF]at hn
 intro e;cases t with
 | nil=>cases e
 | cons c r=>
  simp at e;subst e;have:nameOf (47 :: r)=47 :: nameOf r:=by unfold nameOf;rw[List.takeWhile_cons_of_pos (by decide)]
  rw[this,aF]at hn;simp[lD]at hn
theorem BU{t:List UInt8}(h:aM t=true):eX t=some (2,t):=by
 obtain⟨_,h1,h2,_⟩:=l7 h;unfold eX;rw[if_neg h1,if_neg h2,if_pos h]
theorem Ji{t:List UInt8}(h:aM t=true):eX (t++[47])=some (4,t):=by
 obtain⟨h0,h1,_,_⟩:=l7 h;unfold eX;rw[if_neg (by cases t with|nil=>exact absurd rfl h0|cons c r=>simpa using h1),if_pos (by simp),List.dropLast_concat,if_pos h]
theorem Jh{t:List UInt8}(h:aF t=true):eX (47 :: t)=some (3,t):=by
 unfold eX;rw[if_pos (by rfl),List.drop_succ_cons,List.drop_zero,if_pos h]
theorem qN{t:List UInt8}(h:aF t=true):nameOf t=t:=by
 unfold nameOf;have:=List.takeWhile_append_of_pos (p:=λc:UInt8=>decide (c.toNat≠32)) (l₁:=t) (l₂:=[]) (λc hc=>decide_eq_true ((rC h c hc).2.2.2.1))
 simpa using this
def tI(p:It):Prop:=(∃c,p=(1,[c],0))\/(∃t,p=(5,t,0)/\aF t=true)\/
 (∃t i,(p=(2,t,i)\/p=(4,t,i))/\aM t=true/\bE (nameOf t)=false)\/(∃t i,p=(3,t,i)/\aF t=true/\bE t=false)
theorem ye{t rest:List UInt8}{k:Int}{u:List UInt8}(h:∀c∈t,c.toNat≠62)(hi:eX t=some (k,u))(hb:bE (nameOf u)=false):b7 ([60]++t++[62]++rest)=some (k,u,t.length+2):=by
 have e:([60]++t++[62]++rest:List UInt8)=60 :: (t++[62]++rest):=by simp
 have:=yL (rest:=rest) h hi
 rw[e]at this;rw[e,oD (by rfl),uv,this];simp only[hb,Bool.false_eq_true,if_false]
theorem yJ{t rest:List UInt8}(h:aF t=true):cR ([123]++t++[125]++rest)=some (t,t.length+2):=by
 unfold cR;have e:([123]++t++[125]++rest).drop 1=t++(125 :: rest):=by simp
 have e2:(t++(125 :: rest)).takeWhile (λc=>decide (c.toNat≠125))=t:=by
  rw[List.takeWhile_append_of_pos (λc hc=>decide_eq_true ((rC h c hc).2.2.1)),List.takeWhile_cons_of_neg (by simp)];simp
 simp only[e,e2];rw[decide_eq_true (by simp),h];rfl
theorem Hl(c:UInt8):j5 b7 (bl 1 c) (1,[c],0):=by
 refine⟨λe=>by have:=lu 1 c;rw[e]at this;simp at this,by simp,λrest=>?_⟩;unfold bl;rw[if_pos rfl]
 by_cases lR:c.toNat=60
 ·rw[if_pos lR];have:c=60:=UInt8.toNat_inj.1 lR
  subst this
  show b7 (38 :: _)=_
  rw[iZ (by rfl)];rfl
 rw[if_neg lR]
 by_cases qb:c.toNat=38
 ·rw[if_pos qb];have:c=38:=UInt8.toNat_inj.1 qb
  subst this
  show b7 (38 :: _)=_
  rw[iZ (by rfl)];rfl
 rw[if_neg qb]
 by_cases cU:c.toNat=123
 ·rw[if_pos cU];have:c=123:=UInt8.toNat_inj.1 cU
  subst this
  show b7 (38 :: _)=_
  rw[iZ (by rfl)];rfl
 rw[if_neg cU]
 show b7 (c :: rest)=_
 rw[kl lR qb cU];rfl
theorem MG:j5 b7 [38,103,116,59] (1,[62],0):=by
 refine⟨by simp,by simp,λrest=>?_⟩
 show b7 (38 :: _)=_
 rw[iZ (by rfl)];rfl
theorem No:j5 b7 [38,114,98,59] (1,[125],0):=by
 refine⟨by simp,by simp,λrest=>?_⟩
 show b7 (38 :: _)=_
 rw[iZ (by rfl)];rfl
theorem yj{p:It}(h:tI p):j5 b7 (aL 1 p) p:=by
 rcases h with⟨c,rfl⟩|⟨t,rfl,ht⟩|⟨t,i,rfl|rfl,ht,hb⟩|⟨t,i,rfl,ht,hb⟩
 ·have e:aL 1 (1,[c],0)=bl 1 c:=by simp[aL]
  rw[e];exact Hl c
 ·have e:aL 1 (5,t,0)=[123]++t++[125]:=by simp[aL]
  rw[e];refine⟨by simp,by simp,λrest=>?_⟩;have e2:([123]++t++[125]++rest:List UInt8)=123 :: (t++[125]++rest):=by simp
  have hs:=yJ (rest:=rest) ht;rw[e2]at hs;rw[e2,lE (by rfl),hs];simp
 ·have e:aL 1 (2,t,i)=[60]++t++[62]:=by simp[aL]
  rw[e];refine⟨by simp,by simp,λrest=>?_⟩;rw[ye (λc hc=>(l6 ht c hc).1) (BU ht) hb];simp
 ·have e:aL 1 (4,t,i)=[60]++(t++[47])++[62]:=by simp[aL]
  rw[e];refine⟨by simp,by simp,λrest=>?_⟩;rw[ye (λc hc=>by rcases List.mem_append.1 hc with hc|hc;exact(l6 ht c hc).1;simp at hc;subst hc;decide) (Ji ht) hb];simp
 have e:aL 1 (3,t,i)=[60]++(47 :: t)++[62]:=by simp[aL]
 rw[e];refine⟨by simp,by simp,λrest=>?_⟩;rw[ye (λc hc=>by rcases List.mem_cons.1 hc with rfl|hc;decide;exact(rC ht c hc).1) (Jh ht) (by rw[qN ht];exact hb)];simp
end Go.Proofs.YthoemdibbldndaaGreatDoor.St
namespace Go.Proofs.YthoemdibbldndaaGreatDoor.St
def fo(l:List Int)(x:It):List Int:=if aQ x.1=true/\x.2.2 ∉ l then l++[x.2.2]else l
def na(f:List It):List Int:=f.foldl fo []
def ij(l:List Int)(x:It):It:=if aQ x.1 then(x.1,x.2.1,(l.idxOf x.2.2:Int)+1)else x
def pF(f:List It):List It:=bI (f.map (ij (na f)))
def mF(c:Nat):List Int:=(List.range c).map λ(i:Nat)=>(i:Int)+1
theorem Ab(c:Nat):mF (c+1)=mF c++[(c:Int)+1]:=by unfold mF;rw[List.range_succ,List.map_append];rfl
theorem vl(c:Nat):(mF c).length=c:=by simp[mF]
theorem rB{c:Nat}{i:Int}:i∈mF c ↔ 1<=i/\i<=c:=by
 unfold mF;rw[List.mem_map];constructor
 ·rintro ⟨j,hj,rfl⟩;have:=List.mem_range.1 hj
  omega
 rintro ⟨h1,h2⟩;exact⟨i.toNat-1,List.mem_range.2 (by omega),by omega⟩
theorem Gk:∀(c:Nat) (i:Int),1<=i->i<=c->(mF c).idxOf i=i.toNat-1
 | 0,i,h1,h2=>by omega
 | c+1,i,h1,h2=>by
  rw[Ab]
  by_cases h:i<=c
  ·rw[List.idxOf_append,if_pos (rB.2 ⟨h1,h⟩)];exact Gk c i h1 h
  have hi:i=(c:Int)+1:=by omega
  subst hi;rw[List.idxOf_append,if_neg (λe=>by have:=(rB.1 e).2;omega),vl];simp<;>omega
theorem K7(t:List UInt8)(l:List Int):(t.map (λc=>((1:Int),[c],(0:Int)))).foldl fo l=l:=by
 induction t with
 | nil=>rfl
 | cons c t ih=>
  rw[List.map_cons,List.foldl_cons];have:fo l (1,[c],0)=l:=by unfold fo;rw[if_neg];intro h;exact absurd h.1 (by simp[aQ])
  rw[this];exact ih
theorem PE(f:List It)(l:List Int):(aE f).foldl fo l=f.foldl fo l:=by
 induction f generalizing l with
 | nil=>rfl
 | cons x f ih=>
  have e:aE (x :: f)=(if x.1=1 then x.2.1.map (λc=>((1:Int),[c],(0:Int)))else[x])++aE f:=by simp[aE]
  rw[e,List.foldl_append,List.foldl_cons,ih];congr 1
  split
  ·rename_i h
   rw[K7];unfold fo;rw[if_neg];intro h2;have:=h2.1
   rw[h]at this;simp[aQ]at this
  rfl
theorem GB:∀(ps op:List It) (c:Nat) {cJ:List It} {c':Nat},fy ps op c=some (cJ,c')->(∀o∈op,1<=o.2.2/\o.2.2<=c) ->
  ps.foldl fo (mF c)=mF c'/\(∀o∈cJ,1<=o.2.2/\o.2.2<=c')/\c<=c'/\∀p∈ps,aQ p.1=true->1<=p.2.2/\p.2.2<=c'
 | [],op,c,cJ,c',h,ho=>by
  simp only[fy,Option.some.injEq,Prod.mk.injEq]at h;obtain⟨rfl,rfl⟩:=h;exact⟨rfl,ho,Nat.le_refl _,λp hp=>by cases hp⟩
 | p :: ps,op,c,cJ,c',h,ho=>by
  rw[fy]at h;cases hs:stepT op c p.1 p.2.1 with
  | none=>rw[hs]at h;cases h
  | some y=>
   obtain⟨i,yr,c2⟩:=y;rw[hs]at h;simp only at h
   split at h
   ·rename_i hi
    subst hi
    have key:fo (mF c) p=mF c2/\(∀o∈yr,1<=o.2.2/\o.2.2<=c2)/\c<=c2/\(aQ p.1=true->1<=p.2.2/\p.2.2<=c2):=by
     unfold stepT at hs
     split at hs
     ·rename_i h3
      cases hg:op.getLast? with
      | none=>rw[hg]at hs;cases hs
      | some o=>
       rw[hg]at hs;simp only at hs
       split at hs
       ·simp only[Option.some.injEq,Prod.mk.injEq]at hs;obtain⟨h5,rfl,rfl⟩:=hs;have DH:o∈op:=List.mem_of_getLast? hg;have:=ho o DH
        refine⟨?_,λq hq=>ho q (List.dropLast_subset _ hq),Nat.le_refl _,λ_=>by omega⟩;unfold fo;rw[if_neg];rintro ⟨_,hn⟩;exact hn (rB.2 (by omega))
       cases hs
     split at hs
     ·rename_i h3 h2
      simp only[Option.some.injEq,Prod.mk.injEq]at hs;obtain⟨h5,rfl,rfl⟩:=hs;refine⟨?_,λq hq=>?_,by omega,λ_=>by omega⟩
      ·unfold fo;rw[if_pos ⟨by rw[h2];rfl,λe=>by have:=(rB.1 e).2;omega⟩,Ab,h5]
      rcases List.mem_append.1 hq with hq|hq
      ·have:=ho q hq;omega
      simp at hq;subst hq;simp only;omega
     split at hs
     ·rename_i h3 h2 h4
      simp only[Option.some.injEq,Prod.mk.injEq]at hs;obtain⟨h5,rfl,rfl⟩:=hs;refine⟨?_,λq hq=>by have:=ho q hq;omega,by omega,λ_=>by omega⟩;unfold fo;rw[if_pos ⟨by rw[h4];rfl,λe=>by have:=(rB.1 e).2;omega⟩,Ab,h5]
     rename_i h3 h2 h4
     simp only[Option.some.injEq,Prod.mk.injEq]at hs;obtain⟨h5,rfl,rfl⟩:=hs;have hnt:aQ p.1=false:=by unfold aQ;simp[h2,h3,h4]
     refine⟨?_,ho,Nat.le_refl _,λe=>by rw[hnt]at e;cases e⟩;unfold fo;rw[if_neg (λe=>by rw[hnt]at e;cases e.1)]
    obtain⟨k1,k2,k3,k4⟩:=key;obtain⟨g1,g2,g3,g4⟩:=GB ps yr c2 h k2;refine⟨by rw[List.foldl_cons,k1];exact g1,g2,by omega,λq hq ht=>?_⟩;rcases List.mem_cons.1 hq with rfl|hq
    ·have:=k4 ht;omega
    exact g4 q hq ht
   cases h
theorem Ns{f:List It}{op:List It}{c:Nat}(h:fy (aE f) [] 0=some (op,c)):na f=mF c/\f.map (ij (na f))=f:=by
 obtain⟨h1,_,_,h4⟩:=GB _ _ _ h λo ho=>by cases ho
 have hn:na f=mF c:=by rw[PE]at h1;exact h1
 refine⟨hn,?_⟩;rw[hn];refine(List.map_congr_left λx hx=>?_).trans (List.map_id f);unfold ij
 split
 ·rename_i ht
  have hne:x.1≠1:=λe=>by rw[e]at ht;simp[aQ]at ht
  have hm:x∈aE f:=by
   unfold aE;exact List.mem_flatMap.2 ⟨x,hx,by rw[if_neg hne];simp⟩
  obtain⟨g1,g2⟩:=h4 x hm ht;rw[Gk c _ g1 g2];obtain⟨k,t,i⟩:=x;simp only at g1 g2 |-;have:((i.toNat-1:Nat):Int)+1=i:=by omega
  rw[this];rfl
 rfl
end Go.Proofs.YthoemdibbldndaaGreatDoor.St
namespace Go.Proofs.YthoemdibbldndaaGreatDoor.St
theorem pw(f:List It)(x:It):aA (aK f x)=aA f+aV x:=by
 rcases cL f with rfl|⟨a,b,rfl⟩
 ·rw[dU];unfold aV
  split
  ·rename_i h
   split
   ·rename_i h2;simp[aA,h2]
   simp[aA,aV]
  rename_i h;simp[aA,aV,h]
 rw[cN]
 split
 ·rename_i h
  split
  ·rename_i h2
   have:aV x=0:=by unfold aV;rw[if_pos h,h2];rfl
   omega
  split
  ·rename_i h3
   rw[gM,gM];unfold aV;rw[if_pos rfl,if_pos h3,if_pos h];simp only[List.length_append];omega
  rw[gM,gM];congr 1;unfold aV;rw[if_pos rfl,if_pos h]
 rw[gM]
structure wY (L:Nat) (R:gy):Prop where
 nm:Nm R.1
 len:R.1.length<=512
 cl:R.2.1.length=aA R.1+1
 le:aA R.1<=1024
 aY:aY R.1<=L
 mono:R.2.1.Pairwise (·<=·)
 top:∀c∈R.2.1,c<=L
def qA(E:List UInt8->El):Prop:=∀l k t n,E l=some (k,t,n)->1<=n/\n<=l.length/\t.length<=n/\(k=1->t.length=1)
theorem J7{L:Nat}{l:List UInt8}{a d:Nat}{f:List It}{cuts:List Nat}{op:List It}(h1:Nm f)(h2:f.length<=512)(h3:cuts.length=aA f)(h4:cuts.length<=1024)(h5:(cuts++[d]).Pairwise (·<=·))(h6:d<=a)(h7:a+l.length<=L)(h8:aY f<=a)(he:(jK a d f cuts op).2.2.2=0):wY L (jK a d f cuts op):=by
 unfold jK at he |-
 split at he
 ·rename_i h
  rw[if_pos h];refine⟨h1,h2,by simp[h3],by simp only;omega,by simp only;omega,h5,λc hc=>?_⟩;rcases List.mem_append.1 hc with hc|hc
  ·have:=(List.pairwise_append.1 h5).2.2 c hc d (by simp);omega
  simp at hc;omega
 cases he
theorem zuz{E:List UInt8->El}(hE:qA E){L:Nat}:∀(fuel:Nat) (l:List UInt8) (a d:Nat) (f:List It) (cuts:List Nat) (op:List It) (c:Nat),Nm f->f.length<=512->cuts.length=aA f->cuts.length<=1024->(cuts++[d]).Pairwise (·<=·)->d<=a->a+l.length<=L->aY f<=a ->
  (dv E fuel l a d f cuts op c).2.2.2=0->wY L (dv E fuel l a d f cuts op c)
 | 0,l,a,d,f,cuts,op,c,h1,h2,h3,h4,h5,h6,h7,h8,he=>by
  unfold dv at he |-;exact J7 h1 h2 h3 h4 h5 h6 h7 h8 he
 | fuel+1,l,a,d,f,cuts,op,c,h1,h2,h3,h4,h5,h6,h7,h8,he=>by
  by_cases h0:l=[]
  ·subst h0;rw[gm]at he |-;exact J7 h1 h2 h3 h4 h5 h6 h7 h8 he
  cases hq:E l with
  | none=>rw[ka _ _ _ _ _ h0 hq]at he;cases he
  | some x=>
   obtain⟨k,t,n⟩:=x;obtain⟨e1,e2,e3,e4⟩:=hE _ _ _ _ hq;have jj:(l.drop n).length=l.length-n:=List.length_drop
   by_cases hk:k=0
   ·subst hk;rw[lO _ _ _ _ _ h0 hq]at he |-;exact zuz hE fuel _ _ _ _ _ _ _ h1 h2 h3 h4 h5 (by omega) (by omega) (by omega) he
   cases hs:stepT op c k t with
   | none=>rw[mS _ _ _ _ _ h0 hq hk hs]at he;cases he
   | some y=>
    obtain⟨i,cJ,c'⟩:=y
    by_cases hf:512<(aK f (k,t,i)).length\/1024<=cuts.length
    ·rw[j9 _ _ _ _ _ h0 hq hk hs hf]at he;cases he
    rw[jh _ _ _ _ _ h0 hq hk hs hf]at he |-
    have hw:aV (k,t,i)=1:=by
     unfold aV
     split
     ·rename_i hk1;exact e4 hk1
     rfl
    have DL:=ik f (k,t,i);refine zuz hE fuel _ _ _ _ _ _ _ (eJ h1 _) (by omega) ?_ (by simp;omega) ?_ (by omega) (by omega) ?_ he
    ·rw[List.length_append,List.length_singleton,pw,hw,h3]
    ·rw[List.pairwise_append];refine⟨h5,by simp,λx hx y hy=>?_⟩;simp at hy;subst hy;rcases List.mem_append.1 hx with hx|hx
     ·have:=(List.pairwise_append.1 h5).2.2 x hx d (by simp);omega
     simp at hx;omega
    simp only at DL;omega
def b8(ps:List Pt):List UInt8:=ps.flatMap (·.2.2)
def fP(S:List UInt8->List Pt × Nat × Int)(ps:List Pt):Int:=if(S (b8 ps)).2.2=0/\(S (b8 ps)).1=ps then 0 else 11
def gx(ps:List Pt)(k:Int):Pt:=if 0<=k then(ps[k.toNat]?).getD (false,[],[])else(false,[],[])
def bQ(D:List UInt8->gy)(ps:List Pt)(k:Int):gy:=if(gx ps k).1=true then D (gx ps k).2.2 else([],[],0,6)
def bV(n:Nat):Int->List (Int × Int)->Bool
 | _,[]=>true
 | at',r :: rs=>if r.1<at'\/r.2<r.1\/(n:Int)<r.2 then false else bV n r.2 rs
def l9(E:List It->List UInt8 × Int)(raw:List UInt8)(cuts:List Nat):Nat->List UInt8->List (Int × Int)->List (List It)->Except Int (List UInt8 × Nat)
 | at',s,r :: rs,t :: ts=>if(E t).2≠0 then .error (E t).2 else l9 E raw cuts (cuts.getD r.2.toNat 0) (s++((raw.take (cuts.getD r.1.toNat 0)).drop at'++(E t).1)) rs ts
 | at',s,_,_=>.ok (s,at')
def kO(f:List It):Nat->List It->List (Int × Int)->List (List It)->List It × Nat
 | at',out,r :: rs,t :: ts=>kO f r.2.toNat (bI (bI (out++aR at' r.1.toNat 0 f)++t)) rs ts
 | at',out,_,_=>(out,at')
def cK(f:List It)(rs:List (Int × Int))(ts:List (List It)):List It:=
 bI ((kO f 0 [] rs ts).1++aR (kO f 0 [] rs ts).2 (aA f) 0 f)
def dH(ps:List Pt)(k:Nat)(s:List UInt8):List Pt:=ps.modify k λp=>(p.1,p.2.1,s)
def Cp(D:List UInt8->gy)(fmt:Int)(ps:List Pt)(k:Nat)(want:List It)(s:List UInt8):(Int × List Pt) × Int:=
 if(D s).2.2.2≠0 then((0,[]),(D s).2.2.2)else if(D s).1≠want then((0,[]),11)
 else if 65536<(b8 (dH ps k s)).length then((0,[]),3)else((fmt,dH ps k s),0)
def eQ(D:List UInt8->gy)(S:List UInt8->List Pt × Nat × Int)(E:List It->List UInt8 × Int)(fmt:Int)(ps:List Pt)(k:Int)(rs:List (Int × Int))(ts:List (List It)):(Int × List Pt) × Int:=
 if fP S ps≠0 then((0,[]),fP S ps)else if(bQ D ps k).2.2.2≠0 then((0,[]),(bQ D ps k).2.2.2)
 else if ts.length≠rs.length\/bV (aA (bQ D ps k).1) 0 rs=false then((0,[]),1)
 else match l9 E (gx ps k).2.2 (bQ D ps k).2.1 0 [] rs ts with
  | .error e=>((0,[]),e)
  | .ok (s,at')=>Cp D fmt ps k.toNat (pF (cK (bQ D ps k).1 rs ts)) (s++(gx ps k).2.2.drop at')
end Go.Proofs.YthoemdibbldndaaGreatDoor.St
