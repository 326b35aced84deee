/- Plain: names, and small facts on bytes of strings. -/
set_option linter.all false
namespace Go.Proofs.YthoemdibbldndaaGreatDoor.St
def ls(c:UInt8):Bool:=decide (97<=c.toNat/\c.toNat<=122)
def fi(c:UInt8):Bool:=decide ((97<=c.toNat/\c.toNat<=122)\/(48<=c.toNat/\c.toNat<=57)\/c.toNat=45)
def aE:List UInt8->Bool
 | []=>false
 | c :: r=>decide (r.length<=23)&&(ls c&&r.all fi)
theorem drop_at(s:ByteArray)(k:Nat)(h:k<s.size):s.1.1.drop k=s[k] :: s.1.1.drop (k+1):=by
 rw[List.drop_eq_getElem_cons (by simpa using h)];rfl
theorem fB(s:ByteArray)(h:0<s.size):s.1.1=s[0] :: s.1.1.drop 1:=by
 have:=drop_at s 0 h;simpa using this
theorem aC(s:ByteArray):s.1.1.length=s.size:=by simp
theorem fN(s:ByteArray)(k:Nat)(h:s.size<=k):s.1.1.drop k=[]:=List.drop_of_length_le (by simpa using h)
theorem xN(s:ByteArray)(h:s.size=0):aE s.1.1=false:=by
 have:s.1.1=[]:=List.eq_nil_of_length_eq_zero (by simpa using h)
 rw[this];rfl
theorem AH(s:ByteArray)(h:24<s.size):aE s.1.1=false:=by
 rw[fB s (by omega),aE];have:¬(s.1.1.drop 1).length<=23:=by simp;omega
 rw[decide_eq_false this];rfl
theorem AG(s:ByteArray)(h:0<s.size)(hc:ls s[0]=false):aE s.1.1=false:=by
 rw[fB s h,aE,hc];simp
theorem AI(s:ByteArray)(h:0<s.size)(TJ:s.size<=24)(hc:ls s[0]=true):aE s.1.1=(s.1.1.drop 1).all fi:=by
 have e:decide ((s.1.1.drop 1).length<=23)=true:=decide_eq_true (by simp;omega);rw[fB s h]
 show(decide ((s.1.1.drop 1).length<=23)&&(ls s[0]&&(s.1.1.drop 1).all fi))=_
 rw[e,hc];simp
theorem Cj(s:ByteArray)(k:Nat)(h:k<s.size):(s.1.1.drop k).all fi=(fi s[k]&&(s.1.1.drop (k+1)).all fi):=by
 rw[drop_at s k h,List.all_cons]
theorem nf:∀(m l:List UInt8),(l.take m.length==m)=m.isPrefixOf l
 | [],l=>by simp
 | c :: m,[]=>by simp[List.isPrefixOf]
 | c :: m,d :: l=>by
  rw[List.length_cons,List.take_succ_cons,List.isPrefixOf,<-nf m l];have e:(d==c)=(c==d):=by rw[Bool.eq_iff_iff,beq_iff_eq,beq_iff_eq];exact eq_comm
  show(d==c&&(l.take m.length==m))=(c==d&&(l.take m.length==m))
  rw[e]
theorem vR(m l:List UInt8)(h:l.length<m.length):m.isPrefixOf l=false:=by
 rw[<-nf,beq_eq_false_iff_ne];intro e;have:=congrArg List.length e
 simp at this;omega
def cM(l:List UInt8):Option (List UInt8 × Nat):=
 let n:=(l.drop 1).takeWhile (λc=>decide (c.toNat≠125))
 if decide (n.length+1<l.length)&&aE n then some (n,n.length+2)else none
def cm:List UInt8->Option (Int × List UInt8 × Nat)
 | []=>none
 | c :: r=>
  if c.toNat=34 then(if([34,34]:List UInt8).isPrefixOf (c :: r)then some (1,[34],2)else none)
  else if c.toNat=123 then(if([123,123]:List UInt8).isPrefixOf (c :: r)then some (1,[123],2)else(cM (c :: r)).map λx=>(5,x.1,x.2))
  else some (1,[c],1)
end Go.Proofs.YthoemdibbldndaaGreatDoor.St
namespace Go.Proofs.YthoemdibbldndaaGreatDoor.St
abbrev It:=Int × List UInt8 × Int
def aL(f:List It)(x:It):List It:=
 if x.1=1 then
  if x.2.1=[]then f else
  match f.getLast? with
  | some y=>if y.1=1 then f.dropLast++[(1,y.2.1++x.2.1,0)]else f++[(1,x.2.1,0)]
  | none=>f++[(1,x.2.1,0)]
 else f++[x]
def bl(f:List It):List It:=f.foldl aL []
theorem eB(x:It):aL [] x=if x.1=1 then if x.2.1=[]then[]else[(1,x.2.1,0)]else[x]:=by
 unfold aL;split
 ·rfl
 rfl
theorem cU(f:List It)(y x:It):aL (f++[y]) x=if x.1=1 then if x.2.1=[]then f++[y]else if y.1=1 then f++[(1,y.2.1++x.2.1,0)]else f++[y]++[(1,x.2.1,0)]else f++[y]++[x]:=by
 unfold aL;simp only[List.getLast?_append,List.getLast?_singleton,Option.some_or,List.dropLast_concat]
theorem eh(f:List It)(x:It):bl (f++[x])=aL (bl f) x:=by unfold bl;rw[List.foldl_append];rfl
theorem cT{α:Type}(l:List α):l=[]\/∃a b,l=a++[b]:=by
 rcases List.eq_nil_or_concat l with h|⟨a,b,h⟩
 ·exact .inl h
 exact .inr ⟨a,b,by simpa using h⟩
theorem gL(f:List It)(x:It):(aL f x).length<=f.length+1/\f.length<=(aL f x).length:=by
 rcases cT f with rfl|⟨a,b,rfl⟩
 ·rw[eB];repeat' split
  all_goals simp
 rw[cU];repeat' split
 all_goals simp
theorem uV:∀(n:Nat) (f:List It),f.length=n->(bl f).length<=n
 | 0,f,h=>by rw[List.eq_nil_of_length_eq_zero h];simp[bl]
 | n+1,f,h=>by
  rcases cT f with rfl|⟨a,b,rfl⟩
  ·simp at h
  rw[eh];have h1:=(gL (bl a) b).1;have h2:=uV n a (by simpa using h);omega
theorem jg(f:List It):(bl f).length<=f.length:=uV _ f rfl
def Nm(f:List It):Prop:=bl f=f
theorem nQ:Nm []:=rfl
theorem FL{f:List It}{y:It}(h:Nm (f++[y])):Nm f/\(y.1=1->y.2.1≠[]/\y.2.2=0/\∀z,f.getLast?=some z->z.1≠1):=by
 unfold Nm at h;rw[eh]at h;have hl:=jg f;rcases cT (bl f)with h0|⟨a,b,h0⟩
 ·rw[h0,eB]at h
  by_cases h1:y.1=1
  ·rw[if_pos h1]at h
   by_cases h2:y.2.1=[]
   ·rw[if_pos h2]at h;simp at h
   rw[if_neg h2]at h
   have:f=[]:=by
    have h3:=congrArg List.length h;simp at h3;exact h3
   subst this;simp only[List.nil_append,List.cons.injEq,and_true]at h;exact⟨rfl,λ_=>⟨h2,by rw[<-h],λz hz=>by simp at hz⟩⟩
  rw[if_neg h1]at h
  have:f=[]:=by
   have h3:=congrArg List.length h;simp at h3;exact h3
  subst this;exact⟨rfl,λh2=>absurd h2 h1⟩
 rw[h0,cU]at h;rw[h0]at hl;simp at hl
 by_cases h1:y.1=1
 ·rw[if_pos h1]at h
  by_cases h2:y.2.1=[]
  ·rw[if_pos h2]at h;have h3:=congrArg List.length h;simp at h3;omega
  rw[if_neg h2]at h
  by_cases h4:b.1=1
  ·rw[if_pos h4]at h;have h3:=congrArg List.length h;simp at h3;omega
  rw[if_neg h4]at h;have h5:=List.append_inj' h rfl;have h6:f=a++[b]:=h5.1.symm;simp only[List.cons.injEq,and_true]at h5;refine⟨by unfold Nm;rw[h0,h6],λ_=>⟨h2,by rw[<-h5.2],λz hz=>?_⟩⟩;rw[h6]at hz;simp at hz;rw[<-hz];exact h4
 rw[if_neg h1]at h;have h5:=List.append_inj' h rfl;exact⟨by unfold Nm;rw[h0,h5.1],λh2=>absurd h2 h1⟩
theorem eH{f:List It}(h:Nm f)(x:It):Nm (aL f x):=by
 have hn:=h;unfold Nm at h;rcases cT f with rfl|⟨a,b,rfl⟩
 ·rw[eB]
  by_cases h1:x.1=1
  ·rw[if_pos h1]
   by_cases h2:x.2.1=[]
   ·rw[if_pos h2];rfl
   rw[if_neg h2];unfold Nm bl;simp[aL,h2]
  rw[if_neg h1];unfold Nm bl;simp[aL,h1]
 rw[cU]
 by_cases h1:x.1=1
 ·rw[if_pos h1]
  by_cases h2:x.2.1=[]
  ·rw[if_pos h2];exact hn
  rw[if_neg h2]
  by_cases h4:b.1=1
  ·rw[if_pos h4];obtain⟨ha,hb⟩:=FL hn;obtain⟨hb1,_,hb3⟩:=hb h4;unfold Nm at ha |-;rw[eh,ha];rcases cT a with rfl|⟨a',b',rfl⟩
   ·rw[eB];simp[hb1]
   rw[cU];have:=hb3 b' (by simp)
   simp[this,hb1]
  rw[if_neg h4];unfold Nm;rw[eh,h,cU];simp[h4,h2]
 rw[if_neg h1];unfold Nm;rw[eh,h,cU];simp[h1]
abbrev El:=Option (Int × List UInt8 × Nat)
def dec(E:List UInt8->El):Nat->List UInt8->Nat->Nat->List It->List Nat->List It × List Nat × Nat × Int
 | 0,_,_,done,f,cuts=>(f,cuts++[done],0,0)
 | fuel+1,l,at',done,f,cuts=>
  if l=[]then(f,cuts++[done],0,0)else
  match E l with
  | none=>([],[],at',2)
  | some (k,t,n)=>
   if k=0 then dec E fuel (l.drop n) (at'+n) done f cuts else
   if 512<(aL f (k,t,0)).length\/1024<=cuts.length then([],[],at',3)else
   dec E fuel (l.drop n) (at'+n) (at'+n) (aL f (k,t,0)) (cuts++[done])
def ch(t:List UInt8):List It:=if t=[]then[]else[(1,t,0)]
def fG(f:List It):Prop:=∀z,f.getLast?=some z->z.1≠1
theorem rD{f:List It}{t:List UInt8}(h:fG f)(c:UInt8):aL (f++ch t) (1,[c],0)=f++ch (t++[c]):=by
 unfold ch
 by_cases ht:t=[]
 ·subst ht;simp only[if_true,List.append_nil,List.nil_append];rw[if_neg (by simp)];rcases cT f with rfl|⟨a,b,rfl⟩
  ·rw[eB];rfl
  rw[cU];have:=h b (by simp)
  simp[this]
 rw[if_neg ht,if_neg (by simp),cU];simp
theorem rE{f:List It}(k:Int)(t:List UInt8)(h:k≠1):aL f (k,t,0)=f++[(k,t,0)]:=by unfold aL;rw[if_neg h]
theorem mv(f:List It)(k:Int)(t:List UInt8)(i:Int)(h:k≠1):fG (f++[(k,t,i)]):=by
 intro z hz;simp at hz;rw[<-hz];exact h
theorem qc:fG []:=by intro z hz;simp at hz
theorem uN(t:List UInt8):(ch t).length=if t=[]then 0 else 1:=by unfold ch;split<;>simp
def aU(ni nt nc:Nat)(text:Bool):Bool:=decide (512<ni+(if 0<nt then 1 else 0)+(if text=false\/nt=0 then 1 else 0)\/1024<nc+1)
theorem lH{f:List It}{t:List UInt8}(h:fG f)(c:UInt8)(nc:Nat):(512<(aL (f++ch t) (1,[c],0)).length\/1024<=nc) ↔ aU f.length t.length nc true=true:=by
 rw[rD h,List.length_append,uN,if_neg (by simp)];unfold aU;rw[decide_eq_true_iff];rcases Nat.eq_zero_or_pos t.length with h0|h0
 ·rw[if_neg (by omega),if_pos (by simp[h0])];omega
 rw[if_pos h0,if_neg (by simp;intro e;simp[e]at h0)];omega
theorem j8{f:List It}{t:List UInt8}(k:Int)(s:List UInt8)(nc:Nat)(hk:k≠1):(512<(aL (f++ch t) (k,s,0)).length\/1024<=nc) ↔ aU f.length t.length nc false=true:=by
 rw[rE _ _ hk,List.length_append,List.length_append,uN];unfold aU;rw[decide_eq_true_iff];rcases Nat.eq_zero_or_pos t.length with h0|h0
 ·rw[if_pos (List.eq_nil_of_length_eq_zero h0),if_neg (by omega),if_pos (by simp)];simp;omega
 rw[if_neg (by intro e;simp[e]at h0),if_pos h0,if_pos (by simp)];simp;omega
end Go.Proofs.YthoemdibbldndaaGreatDoor.St
namespace Go.Proofs.YthoemdibbldndaaGreatDoor.St
def bB:List UInt8->Option Nat
 | []=>none
 | c :: r=>if c.toNat=34 then(match r with
   | []=>some 1
   | d :: r'=>if d.toNat=34 then(bB r').map (·+2)else some 1)else(bB r).map (·+1)
def ft(c:UInt8):Bool:=decide (c.toNat≠34/\c.toNat≠44/\c.toNat≠10)
def ef:List UInt8->Bool
 | []=>true
 | c :: _=>decide (c.toNat=44\/c.toNat=10)
def cX(l:List UInt8):Option (Nat × Bool):=
 match l with
 | []=>some (0,false)
 | c :: r=>if c.toNat=34 then(match bB r with
   | none=>none
   | some n=>if ef (r.drop n)then some (n+1,true)else none)
  else
   let n:=(l.takeWhile ft).length
   if ef (l.drop n)then some (n,false)else none
abbrev Pt:=Bool × List UInt8 × List UInt8
def a6(d:List UInt8)(a b:Nat):List UInt8:=(d.take b).drop a
abbrev PS:=List Pt × Nat
def bi(d:List UInt8)(s:PS)(a b:Nat)(key:List UInt8):PS:=(s.1++[(false,[],a6 d s.2 a),(true,key,a6 d a b)],b)
def cI(d:List UInt8)(s:PS):List Pt:=s.1++[(false,[],d.drop s.2)]
def fh(d:List UInt8):Nat->Nat->Nat->Nat->Nat->Except (Nat × Int) (Nat × Nat × Nat × Nat)
 | 0,at',_,_,_=>.error (at',2)
 | fuel+1,at',n,texts,au=>
  match cX (d.drop at')with
  | none=>.error (at',2)
  | some (k,_)=>
   let Ud:Bool:=a6 d at' (at'+k)==[116,101,120,116]
   let Ea:=if Ud then texts+1 else texts
   let Ls:=if Ud then n else au
   match d.drop (at'+k)with
   | []=>.ok (at'+k,n+1,Ea,Ls)
   | c :: _=>if c.toNat=10 then .ok (at'+k,n+1,Ea,Ls)else fh d fuel (at'+k+1) (n+1) Ea Ls
def dv(dE:List UInt8->Nat × Int)(d:List UInt8)(W C:Nat)(key:List UInt8):Nat->Nat->Nat->PS->Except (Nat × Int) (Nat × Nat × PS)
 | 0,at',_,_=>.error (at',2)
 | fuel+1,at',n,s=>
  match cX (d.drop at')with
  | none=>.error (at',2)
  | some (k,q)=>
   if W<=n\/(n=C/\q=false)then .error (at',2)else
   if n=C/\(dE (a6 d (at'+1) (at'+k-1))).2≠0 then .error (at'+1+(dE (a6 d (at'+1) (at'+k-1))).1,(dE (a6 d (at'+1) (at'+k-1))).2)else
   let s':=if n=C then bi d s (at'+1) (at'+k-1) key else s
   match d.drop (at'+k)with
   | []=>.ok (at'+k,n+1,s')
   | c :: _=>if c.toNat=10 then .ok (at'+k,n+1,s')else dv dE d W C key fuel (at'+k+1) (n+1) s'
def cE(dE:List UInt8->Nat × Int)(dig:Nat->List UInt8)(d:List UInt8)(W C:Nat):Nat->Nat->Nat->PS->Except (Nat × Int) PS
 | 0,_,_,s=>.ok s
 | fuel+1,at',r,s=>
  if d.length<=at' then .ok s else
  match dv dE d W C (dig r) (d.length+1) at' 0 s with
  | .error x=>.error x
  | .ok (e,n,s')=>if n<W then .error (at',2)else cE dE dig d W C fuel (e+1) (r+1) s'
def eI(dE:List UInt8->Nat × Int)(dig:Nat->List UInt8)(d:List UInt8):List Pt × Nat × Int:=
 if 65536<d.length then([],0,3)else
 match fh d (d.length+1) 0 0 0 0 with
 | .error (a,e)=>([],a,e)
 | .ok (e,n,texts,au)=>
  if texts=0 then([],0,6)else
  if 1<texts then([],0,5)else
  match cE dE dig d n au (d.length+1) (e+1) 1 ([],0)with
  | .error (a,e)=>([],a,e)
  | .ok s=>(cI d s,0,0)
end Go.Proofs.YthoemdibbldndaaGreatDoor.St
namespace Go.Proofs.YthoemdibbldndaaGreatDoor.St
def ur(E:List UInt8->El):Prop:=∀l k t n,E l=some (k,t,n)->1<=n/\n<=l.length
def GR(f:List It)(x:It)(cuts:List Nat):Prop:=512<(aL f x).length\/1024<=cuts.length
def vO(a d:Nat):List (List UInt8 × It)->List Nat
 | []=>[]
 | p :: ps=>d :: vO (a+p.1.length) (a+p.1.length) ps
def a8(ps:List (List UInt8 × It)):List UInt8:=ps.flatMap (·.1)
def fE(ps:List (List UInt8 × It)):List It:=ps.map (·.2)
theorem Bs(l:List It)(f:List It):f.length<=(l.foldl aL f).length:=by
 induction l generalizing f with
 | nil=>exact Nat.le_refl _
 | cons x l ih=>exact Nat.le_trans (gL f x).2 (ih _)
def aM(f:List It):List It:=f.flatMap λx=>if x.1=1 then x.2.1.map (λc=>((1:Int),[c],(0:Int)))else[x]
theorem rC(t s:List UInt8)(f:List It)(hs:s≠[]):(t.map (λc=>((1:Int),[c],(0:Int)))).foldl aL (f++[(1,s,0)])=f++[(1,s++t,0)]:=by
 induction t generalizing s with
 | nil=>simp
 | cons c t ih=>
  simp only[List.map_cons,List.foldl_cons];rw[cU];simp only[if_true,List.cons_ne_nil,if_false];rw[ih (s++[c]) (by simp)];simp
theorem I5(f:List It)(t:List UInt8):(t.map (λc=>((1:Int),[c],(0:Int)))).foldl aL f=aL f (1,t,0):=by
 cases t with
 | nil=>simp[aL]
 | cons c t=>
  simp only[List.map_cons,List.foldl_cons];rcases cT f with rfl|⟨g,y,rfl⟩
  ·rw[eB,eB];simp only[if_true,List.cons_ne_nil,if_false];exact rC t [c] [] (by simp)
  rw[cU,cU];simp only[if_true,List.cons_ne_nil,if_false]
  split
  ·rw[rC t _ _ (by simp)];simp
  rw[rC t [c] (g++[y]) (by simp)];simp
end Go.Proofs.YthoemdibbldndaaGreatDoor.St
namespace Go.Proofs.YthoemdibbldndaaGreatDoor.St
def nameOf(s:List UInt8):List UInt8:=s.takeWhile (λc=>decide (c.toNat≠32))
def fM(c:UInt8):Bool:=decide (32<=c.toNat/\c.toNat<=126/\c.toNat≠60/\c.toNat≠62/\c.toNat≠123/\c.toNat≠125)
def aN(s:List UInt8):Bool:=
 decide (s.length<=64)&&(s.all fM&&(aE (nameOf s)&&((decide ((nameOf s).length=s.length) || decide ((nameOf s).length+1<s.length))&&(s.getLast? != some 47))))
def aQ(k:Int):Bool:=decide (k=2\/k=3\/k=4)
def bE(x y:It):Bool:=aQ y.1&&(decide (y.2.2=x.2.2)&&(decide (x.1≠3) || (decide (y.1≠2) || decide (nameOf y.2.1≠x.2.1))))
def bh(before:List It)(x:It):Int:=
 if x.1=1 then(if x.2.1=[]\/x.2.2≠0\/(∃y,before.getLast?=some y/\y.1=1)then 1 else 0)
 else if x.1=5 then(if aE x.2.1=true/\x.2.2=0 then 0 else 1)
 else if x.1=2\/x.1=4 then(if aN x.2.1=true/\1<=x.2.2/\x.2.2<=999 then(if before.any (bE x)then 7 else 0)else 1)
 else if x.1=3 then(if aE x.2.1=true/\1<=x.2.2/\x.2.2<=999 then(if before.any (bE x)then 7 else 0)else 1)
 else 1
def aZ(x:It):Nat:=if x.1=1 then x.2.1.length else 1
def aA(f:List It):Nat:=(f.map aZ).sum
def dc:List It->List It->Int
 | _,[]=>0
 | b,x :: r=>if bh b x≠0 then bh b x else dc (b++[x]) r
def bN(f:List It):Int:=if 512<f.length\/1024<aA f then 3 else dc [] f
theorem gG(f:List It)(x:It):aA (f++[x])=aA f+aZ x:=by simp[aA]
def aY(a b:Nat):Nat->List It->List It
 | _,[]=>[]
 | at',x :: r=>
  (if x.1=1 then(if max a at' - at'<min b (at'+x.2.1.length)-at' then[(1,(x.2.1.take (min b (at'+x.2.1.length)-at')).drop (max a at' - at'),x.2.2)]else[])
   else(if a<=at'/\at'<b then[x]else[]))++aY a b (at'+aZ x) r
theorem zux(a b:Nat)(f:List It)(x:It):∀at',aY a b at' (f++[x])=aY a b at' f++aY a b (at'+aA f) [x]:=by
 induction f with
 | nil=>intro at';simp[aY,aA]
 | cons y f ih=>
  intro at';rw[List.cons_append,aY,aY,ih];rw[show at'+aA (y :: f)=at'+aZ y+aA f by simp[aA];omega];simp[List.append_assoc]
def bC(s:List UInt8):Bool:=decide (s=[112]\/s=[104]\/s=[108,105]\/s=[116,100]\/s=[116,105,116,108,101])
def bj(fmt:Int)(c:UInt8):List UInt8:=
 if fmt=1 then(if c.toNat=60 then[38,108,116,59]else if c.toNat=38 then[38,97,109,112,59]else if c.toNat=123 then[38,108,98,59]else[c])
 else if fmt=2 then(if c.toNat=10 then[92,110]else if c.toNat=9 then[92,116]else if c.toNat=13 then[92,114]else if c.toNat=92\/c.toNat=123 then[92,c]else[c])
 else(if c.toNat=34\/c.toNat=123 then[c,c]else[c])
def aK(fmt:Int)(x:It):List UInt8:=
 if x.1=1 then x.2.1.flatMap (bj fmt)else if x.1=2 then[60]++x.2.1++[62]else if x.1=3 then[60,47]++x.2.1++[62]else if x.1=4 then[60]++x.2.1++[47,62]else if x.1=5 then[123]++x.2.1++[125]else[]
def bu(fmt:Int)(x:It):Bool:=aQ x.1&&(decide (fmt≠1) || bC (nameOf x.2.1))
def bw(fmt:Int)(f:List It):List UInt8 × Int:=
 if bN f≠0 then([],bN f)else if f.any (bu fmt)then([],7)else(f.flatMap (aK fmt),0)
theorem li(fmt:Int)(c:UInt8):1<=(bj fmt c).length/\(bj fmt c).length<=5:=by
 unfold bj
 repeat' split
 all_goals simp
end Go.Proofs.YthoemdibbldndaaGreatDoor.St
namespace Go.Proofs.YthoemdibbldndaaGreatDoor
def aV(f:List St.It):Nat:=(f.map λx=>x.2.1.length).sum
theorem cw(f:List St.It)(x:St.It):aV (f++[x])=aV f+x.2.1.length:=by simp[aV]
theorem gW(f:List St.It)(x:St.It):aV (St.aL f x)<=aV f+x.2.1.length:=by
 rcases St.cT f with rfl|⟨a,b,rfl⟩
 ·rw[St.eB];repeat' split
  all_goals simp[aV]
 rw[St.cU];repeat' split
 all_goals simp[aV]<;>omega
theorem jw(f:List St.It)(k:Nat)(h:k<f.length):aV (f.take (k+1))=aV (f.take k)+f[k].2.1.length:=by
 rw[List.take_add_one,List.getElem?_eq_getElem h];exact cw _ _
theorem fK(f:List St.It)(k:Nat):aV (f.take k)<=aV f:=by
 have:aV f=aV (f.take k)+aV (f.drop k):=by
  conv=>lhs;rw[<-List.take_append_drop k f]
  unfold aV;rw[List.map_append,List.sum_append]
 omega
theorem Kl(f:List St.It)(k:Nat)(h:k<f.length):St.bl (f.take (k+1))=St.aL (St.bl (f.take k)) f[k]:=by
 rw[List.take_add_one,List.getElem?_eq_getElem h];exact St.eh _ _
end Go.Proofs.YthoemdibbldndaaGreatDoor
namespace Go.Proofs.YthoemdibbldndaaGreatDoor.St
def stepT(op:List It)(c:Nat)(k:Int)(t:List UInt8):Option (Int × List It × Nat):=
 if k=3 then(match op.getLast? with|none=>none|some o=>if nameOf o.2.1=t then some (o.2.2,op.dropLast,c)else none)
 else if k=2 then some ((c:Int)+1,op++[(2,t,(c:Int)+1)],c+1)
 else if k=4 then some ((c:Int)+1,op,c+1)
 else some (0,op,c)
abbrev gr:=List It × List Nat × Nat × Int
def jH(a d:Nat)(f:List It)(cuts:List Nat)(op:List It):gr:=if op=[]then(f,cuts++[d],0,0)else([],[],a,7)
def du(E:List UInt8->El):Nat->List UInt8->Nat->Nat->List It->List Nat->List It->Nat->gr
 | 0,_,a,d,f,cuts,op,_=>jH a d f cuts op
 | fuel+1,l,a,d,f,cuts,op,c=>
  if l=[]then jH a d f cuts op else
  match E l with
  | none=>([],[],a,2)
  | some (k,t,n)=>
   if k=0 then du E fuel (l.drop n) (a+n) d f cuts op c else
   match stepT op c k t with
   | none=>([],[],a,7)
   | some (i,cK,c')=>
    if 512<(aL f (k,t,i)).length\/1024<=cuts.length then([],[],a,3)else
    du E fuel (l.drop n) (a+n) (a+n) (aL f (k,t,i)) (cuts++[d]) cK c'
section
variable {E:List UInt8->El} {l:List UInt8} {k:Int} {t:List UInt8} {n:Nat} {op cK:List It} {c c':Nat} {i:Int}
theorem gf(fuel a d:Nat)(f:List It)(cuts:List Nat):du E fuel [] a d f cuts op c=jH a d f cuts op:=by cases fuel<;>simp[du]
theorem j7(fuel a d:Nat)(f:List It)(cuts:List Nat)(h0:l≠[])(h:E l=none):du E (fuel+1) l a d f cuts op c=([],[],a,2):=by
 rw[du,if_neg h0,h]
theorem lF(fuel a d:Nat)(f:List It)(cuts:List Nat)(h0:l≠[])(h:E l=some (0,t,n)):du E (fuel+1) l a d f cuts op c=du E fuel (l.drop n) (a+n) d f cuts op c:=by
 rw[du,if_neg h0,h];simp only[if_true]
theorem mS(fuel a d:Nat)(f:List It)(cuts:List Nat)(h0:l≠[])(h:E l=some (k,t,n))(hk:k≠0)(hs:stepT op c k t=none):du E (fuel+1) l a d f cuts op c=([],[],a,7):=by
 rw[du,if_neg h0,h];simp only;rw[if_neg hk,hs]
theorem j6(fuel a d:Nat)(f:List It)(cuts:List Nat)(h0:l≠[])(h:E l=some (k,t,n))(hk:k≠0)(hs:stepT op c k t=some (i,cK,c'))(hf:512<(aL f (k,t,i)).length\/1024<=cuts.length):du E (fuel+1) l a d f cuts op c=([],[],a,3):=by
 rw[du,if_neg h0,h];simp only;rw[if_neg hk,hs];simp only;rw[if_pos hf]
theorem je(fuel a d:Nat)(f:List It)(cuts:List Nat)(h0:l≠[])(h:E l=some (k,t,n))(hk:k≠0)(hs:stepT op c k t=some (i,cK,c'))(hf:¬(512<(aL f (k,t,i)).length\/1024<=cuts.length)) :
  du E (fuel+1) l a d f cuts op c=du E fuel (l.drop n) (a+n) (a+n) (aL f (k,t,i)) (cuts++[d]) cK c':=by
 rw[du,if_neg h0,h];simp only;rw[if_neg hk,hs];simp only;rw[if_neg hf]
end
theorem pS{E:List UInt8->El}(hE:ur E):∀(fuel fuel':Nat) (l:List UInt8) (a d:Nat) (f:List It) (cuts:List Nat) (op:List It) (c:Nat),l.length<=fuel->l.length<=fuel'->du E fuel l a d f cuts op c=du E fuel' l a d f cuts op c
 | 0,fuel',l,a,d,f,cuts,op,c,h,_=>by
  have:l=[]:=List.eq_nil_of_length_eq_zero (by omega)
  subst this;rw[gf,gf]
 | fuel+1,0,l,a,d,f,cuts,op,c,_,h=>by
  have:l=[]:=List.eq_nil_of_length_eq_zero (by omega)
  subst this;rw[gf,gf]
 | fuel+1,fuel'+1,l,a,d,f,cuts,op,c,h,h'=>by
  by_cases h0:l=[]
  ·subst h0;rw[gf,gf]
  cases hs:E l with
  | none=>rw[j7 _ _ _ _ _ h0 hs,j7 _ _ _ _ _ h0 hs]
  | some x=>
   obtain⟨k,t,n⟩:=x;have hn:=hE _ _ _ _ hs;have hl:(l.drop n).length<=fuel/\(l.drop n).length<=fuel':=by simp;omega
   by_cases hk:k=0
   ·subst hk;rw[lF _ _ _ _ _ h0 hs,lF _ _ _ _ _ h0 hs];exact pS hE fuel fuel' _ _ _ _ _ _ _ hl.1 hl.2
   cases ht:stepT op c k t with
   | none=>rw[mS _ _ _ _ _ h0 hs hk ht,mS _ _ _ _ _ h0 hs hk ht]
   | some y=>
    obtain⟨i,cK,c'⟩:=y
    by_cases hf:512<(aL f (k,t,i)).length\/1024<=cuts.length
    ·rw[j6 _ _ _ _ _ h0 hs hk ht hf,j6 _ _ _ _ _ h0 hs hk ht hf]
    rw[je _ _ _ _ _ h0 hs hk ht hf,je _ _ _ _ _ h0 hs hk ht hf];exact pS hE fuel fuel' _ _ _ _ _ _ _ hl.1 hl.2
def eK(E:List UInt8->El)(l:List UInt8)(a d:Nat)(f:List It)(cuts:List Nat)(op:List It)(c:Nat):gr:=du E l.length l a d f cuts op c
theorem zR(E:List UInt8->El)(a d:Nat)(f:List It)(cuts:List Nat)(op:List It)(c:Nat):eK E [] a d f cuts op c=jH a d f cuts op:=gf _ _ _ _ _
theorem F5{l:List UInt8}(h0:l≠[]):∃m,l.length=m+1:=⟨l.length-1,by cases l;exact absurd rfl h0;simp⟩
section
variable {E:List UInt8->El} {l:List UInt8} {k:Int} {t:List UInt8} {n:Nat} {op cK:List It} {c c':Nat} {i:Int}
theorem GG(hE:ur E)(a d:Nat)(f:List It)(cuts:List Nat)(h0:l≠[])(h:E l=some (k,t,n))(hk:k≠0)(hs:stepT op c k t=some (i,cK,c'))(hf:¬GR f (k,t,i) cuts) :
  eK E l a d f cuts op c=eK E (l.drop n) (a+n) (a+n) (aL f (k,t,i)) (cuts++[d]) cK c':=by
 unfold eK;obtain⟨m,hm⟩:=F5 h0;have hn:=hE _ _ _ _ h;rw[hm,je _ _ _ _ _ h0 h hk hs hf];exact pS hE _ _ _ _ _ _ _ _ _ (by simp;omega) (by simp)
end
theorem rK{E:List UInt8->El}(hE:∀l k t n,E l=some (k,t,n)->k=0\/k=1\/k=5):∀(fuel:Nat) (l:List UInt8) (a d:Nat) (f:List It) (cuts:List Nat) (c:Nat),du E fuel l a d f cuts [] c=dec E fuel l a d f cuts
 | 0,l,a,d,f,cuts,c=>by simp[du,dec,jH]
 | fuel+1,l,a,d,f,cuts,c=>by
  by_cases h0:l=[]
  ·subst h0;rw[gf];simp[dec,jH]
  cases hs:E l with
  | none=>rw[j7 _ _ _ _ _ h0 hs];rw[dec,if_neg h0,hs]
  | some x=>
   obtain⟨k,t,n⟩:=x
   by_cases hk:k=0
   ·subst hk;rw[lF _ _ _ _ _ h0 hs,rK hE fuel];rw[dec,if_neg h0,hs];simp only[if_true]
   have ht:stepT [] c k t=some (0,[],c):=by
    have:=hE _ _ _ _ hs
    unfold stepT;rw[if_neg (by omega),if_neg (by omega),if_neg (by omega)]
   by_cases hf:512<(aL f (k,t,0)).length\/1024<=cuts.length
   ·rw[j6 _ _ _ _ _ h0 hs hk ht hf];rw[dec,if_neg h0,hs];simp only;rw[if_neg hk,if_pos hf]
   rw[je _ _ _ _ _ h0 hs hk ht hf,rK hE fuel];rw[dec,if_neg h0,hs];simp only;rw[if_neg hk,if_neg hf]
def j2(E:List UInt8->El)(b:List UInt8)(x:It):Prop:=b≠[]/\x.1≠0/\∀rest,E (b++rest)=some (x.1,x.2.1,b.length)
def fy:List It->List It->Nat->Option (List It × Nat)
 | [],op,c=>some (op,c)
 | p :: ps,op,c=>match stepT op c p.1 p.2.1 with
  | none=>none
  | some (i,cK,c')=>if i=p.2.2 then fy ps cK c' else none
theorem kI:∀(ps qs:List It) (op:List It) (c:Nat) {cK:List It} {c':Nat},fy ps op c=some (cK,c')->fy (ps++qs) op c=fy qs cK c'
 | [],qs,op,c,cK,c',h=>by simp only[fy,Option.some.injEq,Prod.mk.injEq]at h;obtain⟨rfl,rfl⟩:=h;rfl
 | p :: ps,qs,op,c,cK,c',h=>by
  rw[List.cons_append,fy];rw[fy]at h;cases hs:stepT op c p.1 p.2.1 with
  | none=>rw[hs]at h;cases h
  | some y=>
   obtain⟨i,xR,c2⟩:=y;rw[hs]at h;simp only at h |-
   split at h
   ·rename_i hi
    rw[if_pos hi];exact kI ps qs xR c2 h
   cases h
end Go.Proofs.YthoemdibbldndaaGreatDoor.St
namespace Go.Proofs.YthoemdibbldndaaGreatDoor.St
def di(l:List UInt8):List UInt8:=(l.drop 1).takeWhile (λc=>decide (c.toNat≠62))
def eU(t:List UInt8):Option (Int × List UInt8):=
 if t.head?=some 47 then(if aE (t.drop 1)then some (3,t.drop 1)else none)
 else if t.getLast?=some 47 then(if aN t.dropLast then some (4,t.dropLast)else none)
 else if aN t then some (2,t)else none
def fW(l:List UInt8):El:=if(di l).length+1<l.length then(eU (di l)).map λx=>(x.1,x.2,(di l).length+2)else none
def sh(l:List UInt8):El:=
 if([38,108,116,59]:List UInt8).isPrefixOf l then some (1,[60],4)
 else if([38,103,116,59]:List UInt8).isPrefixOf l then some (1,[62],4)
 else if([38,97,109,112,59]:List UInt8).isPrefixOf l then some (1,[38],5)
 else if([38,108,98,59]:List UInt8).isPrefixOf l then some (1,[123],4)
 else if([38,114,98,59]:List UInt8).isPrefixOf l then some (1,[125],4)else none
def tS(l:List UInt8):El:=match fW l with
 | none=>none
 | some (k,t,n)=>if bC (nameOf t)then none else some (k,t,n)
def bV:List UInt8->El
 | []=>none
 | c :: r=>if c.toNat=60 then tS (c :: r)else if c.toNat=38 then sh (c :: r)else if c.toNat=123 then(cM (c :: r)).map λx=>(5,x.1,x.2)else some (1,[c],1)
theorem ow{c:UInt8}{r:List UInt8}(h:c.toNat=60):bV (c :: r)=tS (c :: r):=by rw[bV,if_pos h]
theorem iU{c:UInt8}{r:List UInt8}(h:c.toNat=38):bV (c :: r)=sh (c :: r):=by rw[bV,if_neg (by omega),if_pos h]
theorem lu{c:UInt8}{r:List UInt8}(h:c.toNat=123):bV (c :: r)=(cM (c :: r)).map λx=>(5,x.1,x.2):=by rw[bV,if_neg (by omega),if_neg (by omega),if_pos h]
theorem kj{c:UInt8}{r:List UInt8}(h:c.toNat≠60)(h2:c.toNat≠38)(h3:c.toNat≠123):bV (c :: r)=some (1,[c],1):=by rw[bV,if_neg h,if_neg h2,if_neg h3]
theorem KV{t:List UInt8}{k:Int}{u:List UInt8}(h:eU t=some (k,u)):(k=2\/k=3\/k=4)/\u.length<=t.length:=by
 unfold eU at h
 split at h
 ·split at h
  ·simp only[Option.some.injEq,Prod.mk.injEq]at h;obtain⟨rfl,rfl⟩:=h;exact⟨by omega,by simp⟩
  cases h
 split at h
 ·split at h
  ·simp only[Option.some.injEq,Prod.mk.injEq]at h;obtain⟨rfl,rfl⟩:=h;exact⟨by omega,by simp⟩
  cases h
 split at h
 ·simp only[Option.some.injEq,Prod.mk.injEq]at h;obtain⟨rfl,rfl⟩:=h;exact⟨by omega,by omega⟩
 cases h
theorem kN{l:List UInt8}{k:Int}{t:List UInt8}{n:Nat}(h:fW l=some (k,t,n)):(k=2\/k=3\/k=4)/\2<=n/\n<=l.length/\t.length+2<=n:=by
 unfold fW at h
 split at h
 ·cases hq:eU (di l)with
  | none=>rw[hq]at h;cases h
  | some x=>
   obtain⟨k',u⟩:=x;rw[hq]at h;simp only[Option.map_some,Option.some.injEq,Prod.mk.injEq]at h;obtain⟨rfl,rfl,rfl⟩:=h;have:=KV hq
   exact⟨this.1,by omega,by omega,by omega⟩
 cases h
theorem yW{l:List UInt8}{k:Int}{t:List UInt8}{n:Nat}(h:sh l=some (k,t,n)):k=1/\1<=n/\n<=l.length/\t.length=1:=by
 unfold sh at h
 split at h
 ·rename_i hp
  simp only[Option.some.injEq,Prod.mk.injEq]at h;obtain⟨rfl,rfl,rfl⟩:=h;have:=(List.isPrefixOf_iff_prefix.1 hp).length_le
  exact⟨rfl,by omega,by simpa using this,rfl⟩
 split at h
 ·rename_i hp
  simp only[Option.some.injEq,Prod.mk.injEq]at h;obtain⟨rfl,rfl,rfl⟩:=h;have:=(List.isPrefixOf_iff_prefix.1 hp).length_le
  exact⟨rfl,by omega,by simpa using this,rfl⟩
 split at h
 ·rename_i hp
  simp only[Option.some.injEq,Prod.mk.injEq]at h;obtain⟨rfl,rfl,rfl⟩:=h;have:=(List.isPrefixOf_iff_prefix.1 hp).length_le
  exact⟨rfl,by omega,by simpa using this,rfl⟩
 split at h
 ·rename_i hp
  simp only[Option.some.injEq,Prod.mk.injEq]at h;obtain⟨rfl,rfl,rfl⟩:=h;have:=(List.isPrefixOf_iff_prefix.1 hp).length_le
  exact⟨rfl,by omega,by simpa using this,rfl⟩
 split at h
 ·rename_i hp
  simp only[Option.some.injEq,Prod.mk.injEq]at h;obtain⟨rfl,rfl,rfl⟩:=h;have:=(List.isPrefixOf_iff_prefix.1 hp).length_le
  exact⟨rfl,by omega,by simpa using this,rfl⟩
 cases h
theorem D4{l:List UInt8}{x:List UInt8 × Nat}(h:cM l=some x):2<=x.2/\x.2<=l.length/\x.1.length+2=x.2/\aE x.1=true:=by
 unfold cM at h;simp only[]at h
 split at h
 ·rename_i hq
  rw[Bool.and_eq_true,decide_eq_true_eq]at hq;simp only[Option.some.injEq]at h;subst h;exact⟨by simp,by simp only;omega,rfl,hq.2⟩
 cases h
theorem pq{l:List UInt8}{k:Int}{t:List UInt8}{n:Nat}(h:bV l=some (k,t,n)):(k=1\/k=2\/k=3\/k=4\/k=5)/\1<=n/\n<=l.length/\t.length<=n:=by
 match l,h with
 | c :: r,h=>
  by_cases lI:c.toNat=60
  ·rw[ow lI]at h;unfold tS at h;cases hq:fW (c :: r)with
   | none=>rw[hq]at h;cases h
   | some x=>
    obtain⟨k',t',n'⟩:=x;rw[hq]at h;simp only at h
    split at h
    ·cases h
    simp only[Option.some.injEq,Prod.mk.injEq]at h;obtain⟨rfl,rfl,rfl⟩:=h;have:=kN hq
    exact⟨by omega,by omega,this.2.2.1,by omega⟩
  by_cases pU:c.toNat=38
  ·rw[iU pU]at h;have:=yW h
   exact⟨by omega,by omega,this.2.2.1,by omega⟩
  by_cases cV:c.toNat=123
  ·rw[lu cV]at h;cases hq:cM (c :: r)with
   | none=>rw[hq]at h;cases h
   | some x=>
    rw[hq]at h;simp only[Option.map_some,Option.some.injEq,Prod.mk.injEq]at h;obtain⟨rfl,rfl,rfl⟩:=h;have:=D4 hq
    exact⟨by omega,by omega,this.2.1,by omega⟩
  rw[kj lI pU cV]at h;simp only[Option.some.injEq,Prod.mk.injEq]at h;obtain⟨rfl,rfl,rfl⟩:=h;exact⟨by omega,by omega,by simp,by simp⟩
theorem lX{t:List UInt8}(h:aN t=true):∀c∈t,c.toNat≠62/\c.toNat≠60:=by
 unfold aN at h;simp only[Bool.and_eq_true]at h;intro c hc;have:=List.all_eq_true.1 h.2.1 c hc
 simp only[fM,decide_eq_true_eq]at this;omega
theorem rj{t:List UInt8}(h:aE t=true):∀c∈t,c.toNat≠62/\c.toNat≠60/\c.toNat≠125/\c.toNat≠32/\c.toNat≠47:=by
 cases t with
 | nil=>intro c hc;cases hc
 | cons d r=>
  rw[aE]at h;simp only[Bool.and_eq_true,decide_eq_true_eq,ls]at h;obtain⟨_,h1,h2⟩:=h;intro c hc;rcases List.mem_cons.1 hc with rfl|hc
  ·omega
  have:=List.all_eq_true.1 h2 c hc
  simp only[fi,decide_eq_true_eq]at this;omega
theorem Mb{t rest:List UInt8}(h:∀c∈t,c.toNat≠62):di ([60]++t++[62]++rest)=t:=by
 unfold di;have e:([60]++t++[62]++rest).drop 1=t++(62 :: rest):=by simp
 rw[e,List.takeWhile_append_of_pos (λc hc=>decide_eq_true (h c hc)),List.takeWhile_cons_of_neg (by simp)];simp
theorem ya{t rest:List UInt8}{k:Int}{u:List UInt8}(h:∀c∈t,c.toNat≠62)(hi:eU t=some (k,u)):fW ([60]++t++[62]++rest)=some (k,u,t.length+2):=by
 unfold fW;rw[Mb h,if_pos (by simp),hi];rfl
theorem lY{t:List UInt8}(h:aN t=true):t≠[]/\t.head?≠some 47/\t.getLast?≠some 47/\aE (nameOf t)=true:=by
 unfold aN at h;simp only[Bool.and_eq_true]at h;obtain⟨_,_,hn,_,hl⟩:=h;refine⟨?_,?_,by simpa using hl,hn⟩
 ·intro e;subst e;simp[nameOf,aE]at hn
 intro e;cases t with
 | nil=>cases e
 | cons c r=>
  simp at e;subst e;have:nameOf (47 :: r)=47 :: nameOf r:=by unfold nameOf;rw[List.takeWhile_cons_of_pos (by decide)]
  rw[this,aE]at hn;simp[ls]at hn
theorem Bi{t:List UInt8}(h:aN t=true):eU t=some (2,t):=by
 obtain⟨_,h1,h2,_⟩:=lY h;unfold eU;rw[if_neg h1,if_neg h2,if_pos h]
theorem IA{t:List UInt8}(h:aN t=true):eU (t++[47])=some (4,t):=by
 obtain⟨h0,h1,_,_⟩:=lY h;unfold eU;rw[if_neg (by cases t with|nil=>exact absurd rfl h0|cons c r=>simpa using h1),if_pos (by simp),List.dropLast_concat,if_pos h]
theorem Iz{t:List UInt8}(h:aE t=true):eU (47 :: t)=some (3,t):=by
 unfold eU;rw[if_pos (by rfl),List.drop_succ_cons,List.drop_zero,if_pos h]
theorem qD{t:List UInt8}(h:aE t=true):nameOf t=t:=by
 unfold nameOf;have:=List.takeWhile_append_of_pos (p:=λc:UInt8=>decide (c.toNat≠32)) (l₁:=t) (l₂:=[]) (λc hc=>decide_eq_true ((rj h c hc).2.2.2.1))
 simpa using this
def tc(p:It):Prop:=(∃c,p=(1,[c],0))\/(∃t,p=(5,t,0)/\aE t=true)\/
 (∃t i,(p=(2,t,i)\/p=(4,t,i))/\aN t=true/\bC (nameOf t)=false)\/(∃t i,p=(3,t,i)/\aE t=true/\bC t=false)
theorem xF{t rest:List UInt8}{k:Int}{u:List UInt8}(h:∀c∈t,c.toNat≠62)(hi:eU t=some (k,u))(hb:bC (nameOf u)=false):bV ([60]++t++[62]++rest)=some (k,u,t.length+2):=by
 have e:([60]++t++[62]++rest:List UInt8)=60 :: (t++[62]++rest):=by simp
 have:=ya (rest:=rest) h hi
 rw[e]at this;rw[e,ow (by rfl),tS,this];simp only[hb,Bool.false_eq_true,if_false]
theorem x8{t rest:List UInt8}(h:aE t=true):cM ([123]++t++[125]++rest)=some (t,t.length+2):=by
 unfold cM;have e:([123]++t++[125]++rest).drop 1=t++(125 :: rest):=by simp
 have e2:(t++(125 :: rest)).takeWhile (λc=>decide (c.toNat≠125))=t:=by
  rw[List.takeWhile_append_of_pos (λc hc=>decide_eq_true ((rj h c hc).2.2.1)),List.takeWhile_cons_of_neg (by simp)];simp
 simp only[e,e2];rw[decide_eq_true (by simp),h];rfl
theorem Gx(c:UInt8):j2 bV (bj 1 c) (1,[c],0):=by
 refine⟨λe=>by have:=li 1 c;rw[e]at this;simp at this,by simp,λrest=>?_⟩;unfold bj;rw[if_pos rfl]
 by_cases lI:c.toNat=60
 ·rw[if_pos lI];have:c=60:=UInt8.toNat_inj.1 lI
  subst this
  show bV (38 :: _)=_
  rw[iU (by rfl)];rfl
 rw[if_neg lI]
 by_cases pU:c.toNat=38
 ·rw[if_pos pU];have:c=38:=UInt8.toNat_inj.1 pU
  subst this
  show bV (38 :: _)=_
  rw[iU (by rfl)];rfl
 rw[if_neg pU]
 by_cases cV:c.toNat=123
 ·rw[if_pos cV];have:c=123:=UInt8.toNat_inj.1 cV
  subst this
  show bV (38 :: _)=_
  rw[iU (by rfl)];rfl
 rw[if_neg cV]
 show bV (c :: rest)=_
 rw[kj lI pU cV];rfl
theorem LP:j2 bV [38,103,116,59] (1,[62],0):=by
 refine⟨by simp,by simp,λrest=>?_⟩
 show bV (38 :: _)=_
 rw[iU (by rfl)];rfl
theorem My:j2 bV [38,114,98,59] (1,[125],0):=by
 refine⟨by simp,by simp,λrest=>?_⟩
 show bV (38 :: _)=_
 rw[iU (by rfl)];rfl
theorem xJ{p:It}(h:tc p):j2 bV (aK 1 p) p:=by
 rcases h with⟨c,rfl⟩|⟨t,rfl,ht⟩|⟨t,i,rfl|rfl,ht,hb⟩|⟨t,i,rfl,ht,hb⟩
 ·have e:aK 1 (1,[c],0)=bj 1 c:=by simp[aK]
  rw[e];exact Gx c
 ·have e:aK 1 (5,t,0)=[123]++t++[125]:=by simp[aK]
  rw[e];refine⟨by simp,by simp,λrest=>?_⟩;have e2:([123]++t++[125]++rest:List UInt8)=123 :: (t++[125]++rest):=by simp
  have hs:=x8 (rest:=rest) ht;rw[e2]at hs;rw[e2,lu (by rfl),hs];simp
 ·have e:aK 1 (2,t,i)=[60]++t++[62]:=by simp[aK]
  rw[e];refine⟨by simp,by simp,λrest=>?_⟩;rw[xF (λc hc=>(lX ht c hc).1) (Bi ht) hb];simp
 ·have e:aK 1 (4,t,i)=[60]++(t++[47])++[62]:=by simp[aK]
  rw[e];refine⟨by simp,by simp,λrest=>?_⟩;rw[xF (λc hc=>by rcases List.mem_append.1 hc with hc|hc;exact(lX ht c hc).1;simp at hc;subst hc;decide) (IA ht) hb];simp
 have e:aK 1 (3,t,i)=[60]++(47 :: t)++[62]:=by simp[aK]
 rw[e];refine⟨by simp,by simp,λrest=>?_⟩;rw[xF (λc hc=>by rcases List.mem_cons.1 hc with rfl|hc;decide;exact(rj ht c hc).1) (Iz ht) (by rw[qD ht];exact hb)];simp
end Go.Proofs.YthoemdibbldndaaGreatDoor.St
namespace Go.Proofs.YthoemdibbldndaaGreatDoor.St
def cS(l:List Int)(x:It):List Int:=if aQ x.1=true/\x.2.2 ∉ l then l++[x.2.2]else l
def iX(f:List It):List Int:=f.foldl cS []
def dN(l:List Int)(x:It):It:=if aQ x.1 then(x.1,x.2.1,(l.idxOf x.2.2:Int)+1)else x
def k7(f:List It):List It:=bl (f.map (dN (iX f)))
def jD(c:Nat):List Int:=(List.range c).map λ(i:Nat)=>(i:Int)+1
theorem uO(c:Nat):jD (c+1)=jD c++[(c:Int)+1]:=by unfold jD;rw[List.range_succ,List.map_append];rfl
theorem nu(c:Nat):(jD c).length=c:=by simp[jD]
theorem ri{c:Nat}{i:Int}:i∈jD c ↔ 1<=i/\i<=c:=by
 unfold jD;rw[List.mem_map];constructor
 ·rintro ⟨j,hj,rfl⟩;have:=List.mem_range.1 hj
  omega
 rintro ⟨h1,h2⟩;exact⟨i.toNat-1,List.mem_range.2 (by omega),by omega⟩
theorem FA:∀(c:Nat) (i:Int),1<=i->i<=c->(jD c).idxOf i=i.toNat-1
 | 0,i,h1,h2=>by omega
 | c+1,i,h1,h2=>by
  rw[uO]
  by_cases h:i<=c
  ·rw[List.idxOf_append,if_pos (ri.2 ⟨h1,h⟩)];exact FA c i h1 h
  have hi:i=(c:Int)+1:=by omega
  subst hi;rw[List.idxOf_append,if_neg (λe=>by have:=(ri.1 e).2;omega),nu];simp<;>omega
theorem Km(t:List UInt8)(l:List Int):(t.map (λc=>((1:Int),[c],(0:Int)))).foldl cS l=l:=by
 induction t with
 | nil=>rfl
 | cons c t ih=>
  rw[List.map_cons,List.foldl_cons];have:cS l (1,[c],0)=l:=by unfold cS;rw[if_neg];intro h;exact absurd h.1 (by simp[aQ])
  rw[this];exact ih
theorem O3(f:List It)(l:List Int):(aM f).foldl cS l=f.foldl cS l:=by
 induction f generalizing l with
 | nil=>rfl
 | cons x f ih=>
  have e:aM (x :: f)=(if x.1=1 then x.2.1.map (λc=>((1:Int),[c],(0:Int)))else[x])++aM f:=by simp[aM]
  rw[e,List.foldl_append,List.foldl_cons,ih];congr 1
  split
  ·rename_i h
   rw[Km];unfold cS;rw[if_neg];intro h2;have:=h2.1
   rw[h]at this;simp[aQ]at this
  rfl
theorem FQ:∀(ps op:List It) (c:Nat) {cK:List It} {c':Nat},fy ps op c=some (cK,c')->(∀o∈op,1<=o.2.2/\o.2.2<=c) ->
  ps.foldl cS (jD c)=jD c'/\(∀o∈cK,1<=o.2.2/\o.2.2<=c')/\c<=c'/\∀p∈ps,aQ p.1=true->1<=p.2.2/\p.2.2<=c'
 | [],op,c,cK,c',h,ho=>by
  simp only[fy,Option.some.injEq,Prod.mk.injEq]at h;obtain⟨rfl,rfl⟩:=h;exact⟨rfl,ho,Nat.le_refl _,λp hp=>by cases hp⟩
 | p :: ps,op,c,cK,c',h,ho=>by
  rw[fy]at h;cases hs:stepT op c p.1 p.2.1 with
  | none=>rw[hs]at h;cases h
  | some y=>
   obtain⟨i,xR,c2⟩:=y;rw[hs]at h;simp only at h
   split at h
   ·rename_i hi
    subst hi
    have key:cS (jD c) p=jD c2/\(∀o∈xR,1<=o.2.2/\o.2.2<=c2)/\c<=c2/\(aQ p.1=true->1<=p.2.2/\p.2.2<=c2):=by
     unfold stepT at hs
     split at hs
     ·rename_i h3
      cases hg:op.getLast? with
      | none=>rw[hg]at hs;cases hs
      | some o=>
       rw[hg]at hs;simp only at hs
       split at hs
       ·simp only[Option.some.injEq,Prod.mk.injEq]at hs;obtain⟨h5,rfl,rfl⟩:=hs;have CY:o∈op:=List.mem_of_getLast? hg;have:=ho o CY
        refine⟨?_,λq hq=>ho q (List.dropLast_subset _ hq),Nat.le_refl _,λ_=>by omega⟩;unfold cS;rw[if_neg];rintro ⟨_,hn⟩;exact hn (ri.2 (by omega))
       cases hs
     split at hs
     ·rename_i h3 h2
      simp only[Option.some.injEq,Prod.mk.injEq]at hs;obtain⟨h5,rfl,rfl⟩:=hs;refine⟨?_,λq hq=>?_,by omega,λ_=>by omega⟩
      ·unfold cS;rw[if_pos ⟨by rw[h2];rfl,λe=>by have:=(ri.1 e).2;omega⟩,uO,h5]
      rcases List.mem_append.1 hq with hq|hq
      ·have:=ho q hq;omega
      simp at hq;subst hq;simp only;omega
     split at hs
     ·rename_i h3 h2 h4
      simp only[Option.some.injEq,Prod.mk.injEq]at hs;obtain⟨h5,rfl,rfl⟩:=hs;refine⟨?_,λq hq=>by have:=ho q hq;omega,by omega,λ_=>by omega⟩;unfold cS;rw[if_pos ⟨by rw[h4];rfl,λe=>by have:=(ri.1 e).2;omega⟩,uO,h5]
     rename_i h3 h2 h4
     simp only[Option.some.injEq,Prod.mk.injEq]at hs;obtain⟨h5,rfl,rfl⟩:=hs;have hnt:aQ p.1=false:=by unfold aQ;simp[h2,h3,h4]
     refine⟨?_,ho,Nat.le_refl _,λe=>by rw[hnt]at e;cases e⟩;unfold cS;rw[if_neg (λe=>by rw[hnt]at e;cases e.1)]
    obtain⟨k1,k2,k3,k4⟩:=key;obtain⟨g1,g2,g3,g4⟩:=FQ ps xR c2 h k2;refine⟨by rw[List.foldl_cons,k1];exact g1,g2,by omega,λq hq ht=>?_⟩;rcases List.mem_cons.1 hq with rfl|hq
    ·have:=k4 ht;omega
    exact g4 q hq ht
   cases h
theorem MD{f:List It}{op:List It}{c:Nat}(h:fy (aM f) [] 0=some (op,c)):iX f=jD c/\f.map (dN (iX f))=f:=by
 obtain⟨h1,_,_,h4⟩:=FQ _ _ _ h λo ho=>by cases ho
 have hn:iX f=jD c:=by rw[O3]at h1;exact h1
 refine⟨hn,?_⟩;rw[hn];refine(List.map_congr_left λx hx=>?_).trans (List.map_id f);unfold dN
 split
 ·rename_i ht
  have hne:x.1≠1:=λe=>by rw[e]at ht;simp[aQ]at ht
  have hm:x∈aM f:=by
   unfold aM;exact List.mem_flatMap.2 ⟨x,hx,by rw[if_neg hne];simp⟩
  obtain⟨g1,g2⟩:=h4 x hm ht;rw[FA c _ g1 g2];obtain⟨k,t,i⟩:=x;simp only at g1 g2 |-;have:((i.toNat-1:Nat):Int)+1=i:=by omega
  rw[this];rfl
 rfl
end Go.Proofs.YthoemdibbldndaaGreatDoor.St
namespace Go.Proofs.YthoemdibbldndaaGreatDoor.St
theorem po(f:List It)(x:It):aA (aL f x)=aA f+aZ x:=by
 rcases cT f with rfl|⟨a,b,rfl⟩
 ·rw[eB];unfold aZ
  split
  ·rename_i h
   split
   ·rename_i h2;simp[aA,h2]
   simp[aA,aZ]
  rename_i h;simp[aA,aZ,h]
 rw[cU]
 split
 ·rename_i h
  split
  ·rename_i h2
   have:aZ x=0:=by unfold aZ;rw[if_pos h,h2];rfl
   omega
  split
  ·rename_i h3
   rw[gG,gG];unfold aZ;rw[if_pos rfl,if_pos h3,if_pos h];simp only[List.length_append];omega
  rw[gG,gG];congr 1;unfold aZ;rw[if_pos rfl,if_pos h]
 rw[gG]
structure wu (L:Nat) (R:gr):Prop where
 nm:Nm R.1
 len:R.1.length<=512
 cl:R.2.1.length=aA R.1+1
 le:aA R.1<=1024
 aV:aV R.1<=L
 mono:R.2.1.Pairwise (·<=·)
 top:∀c∈R.2.1,c<=L
def qm(E:List UInt8->El):Prop:=∀l k t n,E l=some (k,t,n)->1<=n/\n<=l.length/\t.length<=n/\(k=1->t.length=1)
theorem Jo{L:Nat}{l:List UInt8}{a d:Nat}{f:List It}{cuts:List Nat}{op:List It}(h1:Nm f)(h2:f.length<=512)(h3:cuts.length=aA f)(h4:cuts.length<=1024)(h5:(cuts++[d]).Pairwise (·<=·))(h6:d<=a)(h7:a+l.length<=L)(h8:aV f<=a)(he:(jH a d f cuts op).2.2.2=0):wu L (jH a d f cuts op):=by
 unfold jH at he |-
 split at he
 ·rename_i h
  rw[if_pos h];refine⟨h1,h2,by simp[h3],by simp only;omega,by simp only;omega,h5,λc hc=>?_⟩;rcases List.mem_append.1 hc with hc|hc
  ·have:=(List.pairwise_append.1 h5).2.2 c hc d (by simp);omega
  simp at hc;omega
 cases he
theorem uC{E:List UInt8->El}(hE:qm E){L:Nat}:∀(fuel:Nat) (l:List UInt8) (a d:Nat) (f:List It) (cuts:List Nat) (op:List It) (c:Nat),Nm f->f.length<=512->cuts.length=aA f->cuts.length<=1024->(cuts++[d]).Pairwise (·<=·)->d<=a->a+l.length<=L->aV f<=a ->
  (du E fuel l a d f cuts op c).2.2.2=0->wu L (du E fuel l a d f cuts op c)
 | 0,l,a,d,f,cuts,op,c,h1,h2,h3,h4,h5,h6,h7,h8,he=>by
  unfold du at he |-;exact Jo h1 h2 h3 h4 h5 h6 h7 h8 he
 | fuel+1,l,a,d,f,cuts,op,c,h1,h2,h3,h4,h5,h6,h7,h8,he=>by
  by_cases h0:l=[]
  ·subst h0;rw[gf]at he |-;exact Jo h1 h2 h3 h4 h5 h6 h7 h8 he
  cases hq:E l with
  | none=>rw[j7 _ _ _ _ _ h0 hq]at he;cases he
  | some x=>
   obtain⟨k,t,n⟩:=x;obtain⟨e1,e2,e3,e4⟩:=hE _ _ _ _ hq;have jf:(l.drop n).length=l.length-n:=List.length_drop
   by_cases hk:k=0
   ·subst hk;rw[lF _ _ _ _ _ h0 hq]at he |-;exact uC hE fuel _ _ _ _ _ _ _ h1 h2 h3 h4 h5 (by omega) (by omega) (by omega) he
   cases hs:stepT op c k t with
   | none=>rw[mS _ _ _ _ _ h0 hq hk hs]at he;cases he
   | some y=>
    obtain⟨i,cK,c'⟩:=y
    by_cases hf:512<(aL f (k,t,i)).length\/1024<=cuts.length
    ·rw[j6 _ _ _ _ _ h0 hq hk hs hf]at he;cases he
    rw[je _ _ _ _ _ h0 hq hk hs hf]at he |-
    have hw:aZ (k,t,i)=1:=by
     unfold aZ
     split
     ·rename_i hk1;exact e4 hk1
     rfl
    have C1:=gW f (k,t,i);refine uC hE fuel _ _ _ _ _ _ _ (eH h1 _) (by omega) ?_ (by simp;omega) ?_ (by omega) (by omega) ?_ he
    ·rw[List.length_append,List.length_singleton,po,hw,h3]
    ·rw[List.pairwise_append];refine⟨h5,by simp,λx hx y hy=>?_⟩;simp at hy;subst hy;rcases List.mem_append.1 hx with hx|hx
     ·have:=(List.pairwise_append.1 h5).2.2 x hx d (by simp);omega
     simp at hx;omega
    simp only at C1;omega
def b6(ps:List Pt):List UInt8:=ps.flatMap (·.2.2)
def fL(S:List UInt8->List Pt × Nat × Int)(ps:List Pt):Int:=if(S (b6 ps)).2.2=0/\(S (b6 ps)).1=ps then 0 else 11
def gl(ps:List Pt)(k:Int):Pt:=if 0<=k then(ps[k.toNat]?).getD (false,[],[])else(false,[],[])
def bO(D:List UInt8->gr)(ps:List Pt)(k:Int):gr:=if(gl ps k).1=true then D (gl ps k).2.2 else([],[],0,6)
def dd(n:Nat):Int->List (Int × Int)->Bool
 | _,[]=>true
 | at',r :: rs=>if r.1<at'\/r.2<r.1\/(n:Int)<r.2 then false else dd n r.2 rs
def lZ(E:List It->List UInt8 × Int)(raw:List UInt8)(cuts:List Nat):Nat->List UInt8->List (Int × Int)->List (List It)->Except Int (List UInt8 × Nat)
 | at',s,r :: rs,t :: ts=>if(E t).2≠0 then .error (E t).2 else lZ E raw cuts (cuts.getD r.2.toNat 0) (s++((raw.take (cuts.getD r.1.toNat 0)).drop at'++(E t).1)) rs ts
 | at',s,_,_=>.ok (s,at')
def kK(f:List It):Nat->List It->List (Int × Int)->List (List It)->List It × Nat
 | at',out,r :: rs,t :: ts=>kK f r.2.toNat (bl (bl (out++aY at' r.1.toNat 0 f)++t)) rs ts
 | at',out,_,_=>(out,at')
def cd(f:List It)(rs:List (Int × Int))(ts:List (List It)):List It:=
 bl ((kK f 0 [] rs ts).1++aY (kK f 0 [] rs ts).2 (aA f) 0 f)
def dI(ps:List Pt)(k:Nat)(s:List UInt8):List Pt:=ps.modify k λp=>(p.1,p.2.1,s)
def BJ(D:List UInt8->gr)(fmt:Int)(ps:List Pt)(k:Nat)(want:List It)(s:List UInt8):(Int × List Pt) × Int:=
 if(D s).2.2.2≠0 then((0,[]),(D s).2.2.2)else if(D s).1≠want then((0,[]),11)
 else if 65536<(b6 (dI ps k s)).length then((0,[]),3)else((fmt,dI ps k s),0)
def fQ(D:List UInt8->gr)(S:List UInt8->List Pt × Nat × Int)(E:List It->List UInt8 × Int)(fmt:Int)(ps:List Pt)(k:Int)(rs:List (Int × Int))(ts:List (List It)):(Int × List Pt) × Int:=
 if fL S ps≠0 then((0,[]),fL S ps)else if(bO D ps k).2.2.2≠0 then((0,[]),(bO D ps k).2.2.2)
 else if ts.length≠rs.length\/dd (aA (bO D ps k).1) 0 rs=false then((0,[]),1)
 else match lZ E (gl ps k).2.2 (bO D ps k).2.1 0 [] rs ts with
  | .error e=>((0,[]),e)
  | .ok (s,at')=>BJ D fmt ps k.toNat (k7 (cd (bO D ps k).1 rs ts)) (s++(gl ps k).2.2.drop at')
end Go.Proofs.YthoemdibbldndaaGreatDoor.St
