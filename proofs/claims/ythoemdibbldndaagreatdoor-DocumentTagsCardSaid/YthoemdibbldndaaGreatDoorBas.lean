/- Plain: names, and small facts on bytes of strings. -/
set_option linter.all false
namespace Go.Proofs.YthoemdibbldndaaGreatDoor.St
def kR(c:UInt8):Bool:=decide (97<=c.toNat/\c.toNat<=122)
def eU(c:UInt8):Bool:=decide ((97<=c.toNat/\c.toNat<=122)\/(48<=c.toNat/\c.toNat<=57)\/c.toNat=45)
def aB:List UInt8->Bool
 | []=>false
 | c :: r=>decide (r.length<=23)&&(kR c&&r.all eU)
theorem drop_at(s:ByteArray)(k:Nat)(h:k<s.size):s.1.1.drop k=s[k] :: s.1.1.drop (k+1):=by
 rw[List.drop_eq_getElem_cons (by simpa using h)];rfl
theorem fo(s:ByteArray)(h:0<s.size):s.1.1=s[0] :: s.1.1.drop 1:=by
 have:=drop_at s 0 h;simpa using this
theorem aC(s:ByteArray):s.1.1.length=s.size:=by simp
theorem fD(s:ByteArray)(k:Nat)(h:s.size<=k):s.1.1.drop k=[]:=List.drop_of_length_le (by simpa using h)
theorem vT(s:ByteArray)(h:s.size=0):aB s.1.1=false:=by
 have:s.1.1=[]:=List.eq_nil_of_length_eq_zero (by simpa using h)
 rw[this];rfl
theorem yE(s:ByteArray)(h:24<s.size):aB s.1.1=false:=by
 rw[fo s (by omega),aB];have:¬(s.1.1.drop 1).length<=23:=by simp;omega
 rw[decide_eq_false this];rfl
theorem yD(s:ByteArray)(h:0<s.size)(hc:kR s[0]=false):aB s.1.1=false:=by
 rw[fo s h,aB,hc];simp
theorem yF(s:ByteArray)(h:0<s.size)(Qz:s.size<=24)(hc:kR s[0]=true):aB s.1.1=(s.1.1.drop 1).all eU:=by
 have e:decide ((s.1.1.drop 1).length<=23)=true:=decide_eq_true (by simp;omega);rw[fo s h]
 show(decide ((s.1.1.drop 1).length<=23)&&(kR s[0]&&(s.1.1.drop 1).all eU))=_
 rw[e,hc];simp
theorem Aq(s:ByteArray)(k:Nat)(h:k<s.size):(s.1.1.drop k).all eU=(eU s[k]&&(s.1.1.drop (k+1)).all eU):=by
 rw[drop_at s k h,List.all_cons]
theorem ms:∀(m l:List UInt8),(l.take m.length==m)=m.isPrefixOf l
 | [],l=>by simp
 | c :: m,[]=>by simp[List.isPrefixOf]
 | c :: m,d :: l=>by
  rw[List.length_cons,List.take_succ_cons,List.isPrefixOf,<-ms m l];have e:(d==c)=(c==d):=by rw[Bool.eq_iff_iff,beq_iff_eq,beq_iff_eq];exact eq_comm
  show(d==c&&(l.take m.length==m))=(c==d&&(l.take m.length==m))
  rw[e]
theorem uI(m l:List UInt8)(h:l.length<m.length):m.isPrefixOf l=false:=by
 rw[<-ms,beq_eq_false_iff_ne];intro e;have:=congrArg List.length e
 simp at this;omega
def cJ(l:List UInt8):Option (List UInt8 × Nat):=
 let n:=(l.drop 1).takeWhile (λc=>decide (c.toNat≠125))
 if decide (n.length+1<l.length)&&aB n then some (n,n.length+2)else none
def ci:List UInt8->Option (Int × List UInt8 × Nat)
 | []=>none
 | c :: r=>
  if c.toNat=34 then(if([34,34]:List UInt8).isPrefixOf (c :: r)then some (1,[34],2)else none)
  else if c.toNat=123 then(if([123,123]:List UInt8).isPrefixOf (c :: r)then some (1,[123],2)else(cJ (c :: r)).map λx=>(5,x.1,x.2))
  else some (1,[c],1)
end Go.Proofs.YthoemdibbldndaaGreatDoor.St
namespace Go.Proofs.YthoemdibbldndaaGreatDoor.St
abbrev It:=Int × List UInt8 × Int
def aP(f:List It)(x:It):List It:=
 if x.1=1 then
  if x.2.1=[]then f else
  match f.getLast? with
  | some y=>if y.1=1 then f.dropLast++[(1,y.2.1++x.2.1,0)]else f++[(1,x.2.1,0)]
  | none=>f++[(1,x.2.1,0)]
 else f++[x]
def bH(f:List It):List It:=f.foldl aP []
theorem ek(x:It):aP [] x=if x.1=1 then if x.2.1=[]then[]else[(1,x.2.1,0)]else[x]:=by
 unfold aP;split
 ·rfl
 rfl
theorem cS(f:List It)(y x:It):aP (f++[y]) x=if x.1=1 then if x.2.1=[]then f++[y]else if y.1=1 then f++[(1,y.2.1++x.2.1,0)]else f++[y]++[(1,x.2.1,0)]else f++[y]++[x]:=by
 unfold aP;simp only[List.getLast?_append,List.getLast?_singleton,Option.some_or,List.dropLast_concat]
theorem eE(f:List It)(x:It):bH (f++[x])=aP (bH f) x:=by unfold bH;rw[List.foldl_append];rfl
theorem cG{α:Type}(l:List α):l=[]\/∃a b,l=a++[b]:=by
 rcases List.eq_nil_or_concat l with h|⟨a,b,h⟩
 ·exact .inl h
 exact .inr ⟨a,b,by simpa using h⟩
theorem l8(f:List It)(x:It):(aP f x).length<=f.length+1/\f.length<=(aP f x).length:=by
 rcases cG f with rfl|⟨a,b,rfl⟩
 ·rw[ek];repeat' split
  all_goals simp
 rw[cS];repeat' split
 all_goals simp
theorem tN:∀(n:Nat) (f:List It),f.length=n->(bH f).length<=n
 | 0,f,h=>by rw[List.eq_nil_of_length_eq_zero h];simp[bH]
 | n+1,f,h=>by
  rcases cG f with rfl|⟨a,b,rfl⟩
  ·simp at h
  rw[eE];have h1:=(l8 (bH a) b).1;have h2:=tN n a (by simpa using h);omega
theorem mX(f:List It):(bH f).length<=f.length:=tN _ f rfl
def Nm(f:List It):Prop:=bH f=f
theorem oE:Nm []:=rfl
theorem DK{f:List It}{y:It}(h:Nm (f++[y])):Nm f/\(y.1=1->y.2.1≠[]/\y.2.2=0/\∀z,f.getLast?=some z->z.1≠1):=by
 unfold Nm at h;rw[eE]at h;have hl:=mX f;rcases cG (bH f)with h0|⟨a,b,h0⟩
 ·rw[h0,ek]at h
  by_cases h1:y.1=1
  ·rw[if_pos h1]at h
   by_cases h2:y.2.1=[]
   ·rw[if_pos h2]at h;simp at h
   rw[if_neg h2]at h
   have:f=[]:=by
    have h3:=congrArg List.length h;simp at h3;exact h3
   subst this;simp only[List.nil_append,List.cons.injEq,and_true]at h;exact⟨rfl,λ_=>⟨h2,by rw[<-h],λz hz=>by simp at hz⟩⟩
  rw[if_neg h1]at h
  have:f=[]:=by
   have h3:=congrArg List.length h;simp at h3;exact h3
  subst this;exact⟨rfl,λh2=>absurd h2 h1⟩
 rw[h0,cS]at h;rw[h0]at hl;simp at hl
 by_cases h1:y.1=1
 ·rw[if_pos h1]at h
  by_cases h2:y.2.1=[]
  ·rw[if_pos h2]at h;have h3:=congrArg List.length h;simp at h3;omega
  rw[if_neg h2]at h
  by_cases h4:b.1=1
  ·rw[if_pos h4]at h;have h3:=congrArg List.length h;simp at h3;omega
  rw[if_neg h4]at h;have h5:=List.append_inj' h rfl;have h6:f=a++[b]:=h5.1.symm;simp only[List.cons.injEq,and_true]at h5;refine⟨by unfold Nm;rw[h0,h6],λ_=>⟨h2,by rw[<-h5.2],λz hz=>?_⟩⟩;rw[h6]at hz;simp at hz;rw[<-hz];exact h4
 rw[if_neg h1]at h;have h5:=List.append_inj' h rfl;exact⟨by unfold Nm;rw[h0,h5.1],λh2=>absurd h2 h1⟩
theorem fy{f:List It}(h:Nm f)(x:It):Nm (aP f x):=by
 have hn:=h;unfold Nm at h;rcases cG f with rfl|⟨a,b,rfl⟩
 ·rw[ek]
  by_cases h1:x.1=1
  ·rw[if_pos h1]
   by_cases h2:x.2.1=[]
   ·rw[if_pos h2];rfl
   rw[if_neg h2];unfold Nm bH;simp[aP,h2]
  rw[if_neg h1];unfold Nm bH;simp[aP,h1]
 rw[cS]
 by_cases h1:x.1=1
 ·rw[if_pos h1]
  by_cases h2:x.2.1=[]
  ·rw[if_pos h2];exact hn
  rw[if_neg h2]
  by_cases h4:b.1=1
  ·rw[if_pos h4];obtain⟨ha,hb⟩:=DK hn;obtain⟨hb1,_,hb3⟩:=hb h4;unfold Nm at ha |-;rw[eE,ha];rcases cG a with rfl|⟨a',b',rfl⟩
   ·rw[ek];simp[hb1]
   rw[cS];have:=hb3 b' (by simp)
   simp[this,hb1]
  rw[if_neg h4];unfold Nm;rw[eE,h,cS];simp[h4,h2]
 rw[if_neg h1];unfold Nm;rw[eE,h,cS];simp[h1]
abbrev El:=Option (Int × List UInt8 × Nat)
def dec(E:List UInt8->El):Nat->List UInt8->Nat->Nat->List It->List Nat->List It × List Nat × Nat × Int
 | 0,_,_,done,f,cuts=>(f,cuts++[done],0,0)
 | fuel+1,l,at',done,f,cuts=>
  if l=[]then(f,cuts++[done],0,0)else
  match E l with
  | none=>([],[],at',2)
  | some (k,t,n)=>
   if k=0 then dec E fuel (l.drop n) (at'+n) done f cuts else
   if 512<(aP f (k,t,0)).length\/1024<=cuts.length then([],[],at',3)else
   dec E fuel (l.drop n) (at'+n) (at'+n) (aP f (k,t,0)) (cuts++[done])
def b8(t:List UInt8):List It:=if t=[]then[]else[(1,t,0)]
def fu(f:List It):Prop:=∀z,f.getLast?=some z->z.1≠1
theorem qD{f:List It}{t:List UInt8}(h:fu f)(c:UInt8):aP (f++b8 t) (1,[c],0)=f++b8 (t++[c]):=by
 unfold b8
 by_cases ht:t=[]
 ·subst ht;simp only[if_true,List.append_nil,List.nil_append];rw[if_neg (by simp)];rcases cG f with rfl|⟨a,b,rfl⟩
  ·rw[ek];rfl
  rw[cS];have:=h b (by simp)
  simp[this]
 rw[if_neg ht,if_neg (by simp),cS];simp
theorem qE{f:List It}(k:Int)(t:List UInt8)(h:k≠1):aP f (k,t,0)=f++[(k,t,0)]:=by unfold aP;rw[if_neg h]
theorem lS(f:List It)(k:Int)(t:List UInt8)(i:Int)(h:k≠1):fu (f++[(k,t,i)]):=by
 intro z hz;simp at hz;rw[<-hz];exact h
theorem pk:fu []:=by intro z hz;simp at hz
theorem tH(t:List UInt8):(b8 t).length=if t=[]then 0 else 1:=by unfold b8;split<;>simp
def aV(ni nt nc:Nat)(text:Bool):Bool:=decide (512<ni+(if 0<nt then 1 else 0)+(if text=false\/nt=0 then 1 else 0)\/1024<nc+1)
theorem lf{f:List It}{t:List UInt8}(h:fu f)(c:UInt8)(nc:Nat):(512<(aP (f++b8 t) (1,[c],0)).length\/1024<=nc) ↔ aV f.length t.length nc true=true:=by
 rw[qD h,List.length_append,tH,if_neg (by simp)];unfold aV;rw[decide_eq_true_iff];rcases Nat.eq_zero_or_pos t.length with h0|h0
 ·rw[if_neg (by omega),if_pos (by simp[h0])];omega
 rw[if_pos h0,if_neg (by simp;intro e;simp[e]at h0)];omega
theorem jI{f:List It}{t:List UInt8}(k:Int)(s:List UInt8)(nc:Nat)(hk:k≠1):(512<(aP (f++b8 t) (k,s,0)).length\/1024<=nc) ↔ aV f.length t.length nc false=true:=by
 rw[qE _ _ hk,List.length_append,List.length_append,tH];unfold aV;rw[decide_eq_true_iff];rcases Nat.eq_zero_or_pos t.length with h0|h0
 ·rw[if_pos (List.eq_nil_of_length_eq_zero h0),if_neg (by omega),if_pos (by simp)];simp;omega
 rw[if_neg (by intro e;simp[e]at h0),if_pos h0,if_pos (by simp)];simp;omega
end Go.Proofs.YthoemdibbldndaaGreatDoor.St
namespace Go.Proofs.YthoemdibbldndaaGreatDoor.St
def bC:List UInt8->Option Nat
 | []=>none
 | c :: r=>if c.toNat=34 then(match r with
   | []=>some 1
   | d :: r'=>if d.toNat=34 then(bC r').map (·+2)else some 1)else(bC r).map (·+1)
def fc(c:UInt8):Bool:=decide (c.toNat≠34/\c.toNat≠44/\c.toNat≠10)
def ee:List UInt8->Bool
 | []=>true
 | c :: _=>decide (c.toNat=44\/c.toNat=10)
def cW(l:List UInt8):Option (Nat × Bool):=
 match l with
 | []=>some (0,false)
 | c :: r=>if c.toNat=34 then(match bC r with
   | none=>none
   | some n=>if ee (r.drop n)then some (n+1,true)else none)
  else
   let n:=(l.takeWhile fc).length
   if ee (l.drop n)then some (n,false)else none
abbrev Pt:=Bool × List UInt8 × List UInt8
def aY(d:List UInt8)(a b:Nat):List UInt8:=(d.take b).drop a
abbrev PS:=List Pt × Nat
def bg(d:List UInt8)(s:PS)(a b:Nat)(key:List UInt8):PS:=(s.1++[(false,[],aY d s.2 a),(true,key,aY d a b)],b)
def cD(d:List UInt8)(s:PS):List Pt:=s.1++[(false,[],d.drop s.2)]
def eT(d:List UInt8):Nat->Nat->Nat->Nat->Nat->Except (Nat × Int) (Nat × Nat × Nat × Nat)
 | 0,at',_,_,_=>.error (at',2)
 | fuel+1,at',n,texts,aw=>
  match cW (d.drop at')with
  | none=>.error (at',2)
  | some (k,_)=>
   let QZ:Bool:=aY d at' (at'+k)==[116,101,120,116]
   let Cn:=if QZ then texts+1 else texts
   let Jv:=if QZ then n else aw
   match d.drop (at'+k)with
   | []=>.ok (at'+k,n+1,Cn,Jv)
   | c :: _=>if c.toNat=10 then .ok (at'+k,n+1,Cn,Jv)else eT d fuel (at'+k+1) (n+1) Cn Jv
def dm(dE:List UInt8->Nat × Int)(d:List UInt8)(W C:Nat)(key:List UInt8):Nat->Nat->Nat->PS->Except (Nat × Int) (Nat × Nat × PS)
 | 0,at',_,_=>.error (at',2)
 | fuel+1,at',n,s=>
  match cW (d.drop at')with
  | none=>.error (at',2)
  | some (k,q)=>
   if W<=n\/(n=C/\q=false)then .error (at',2)else
   if n=C/\(dE (aY d (at'+1) (at'+k-1))).2≠0 then .error (at'+1+(dE (aY d (at'+1) (at'+k-1))).1,(dE (aY d (at'+1) (at'+k-1))).2)else
   let s':=if n=C then bg d s (at'+1) (at'+k-1) key else s
   match d.drop (at'+k)with
   | []=>.ok (at'+k,n+1,s')
   | c :: _=>if c.toNat=10 then .ok (at'+k,n+1,s')else dm dE d W C key fuel (at'+k+1) (n+1) s'
def cw(dE:List UInt8->Nat × Int)(dig:Nat->List UInt8)(d:List UInt8)(W C:Nat):Nat->Nat->Nat->PS->Except (Nat × Int) PS
 | 0,_,_,s=>.ok s
 | fuel+1,at',r,s=>
  if d.length<=at' then .ok s else
  match dm dE d W C (dig r) (d.length+1) at' 0 s with
  | .error x=>.error x
  | .ok (e,n,s')=>if n<W then .error (at',2)else cw dE dig d W C fuel (e+1) (r+1) s'
def eB(dE:List UInt8->Nat × Int)(dig:Nat->List UInt8)(d:List UInt8):List Pt × Nat × Int:=
 if 65536<d.length then([],0,3)else
 match eT d (d.length+1) 0 0 0 0 with
 | .error (a,e)=>([],a,e)
 | .ok (e,n,texts,aw)=>
  if texts=0 then([],0,6)else
  if 1<texts then([],0,5)else
  match cw dE dig d n aw (d.length+1) (e+1) 1 ([],0)with
  | .error (a,e)=>([],a,e)
  | .ok s=>(cD d s,0,0)
end Go.Proofs.YthoemdibbldndaaGreatDoor.St
namespace Go.Proofs.YthoemdibbldndaaGreatDoor.St
def th(E:List UInt8->El):Prop:=∀l k t n,E l=some (k,t,n)->1<=n/\n<=l.length
def ES(f:List It)(x:It)(cuts:List Nat):Prop:=512<(aP f x).length\/1024<=cuts.length
def uG(a d:Nat):List (List UInt8 × It)->List Nat
 | []=>[]
 | p :: ps=>d :: uG (a+p.1.length) (a+p.1.length) ps
def bt(ps:List (List UInt8 × It)):List UInt8:=ps.flatMap (·.1)
def eV(ps:List (List UInt8 × It)):List It:=ps.map (·.2)
theorem zv(l:List It)(f:List It):f.length<=(l.foldl aP f).length:=by
 induction l generalizing f with
 | nil=>exact Nat.le_refl _
 | cons x l ih=>exact Nat.le_trans (l8 f x).2 (ih _)
def aN(f:List It):List It:=f.flatMap λx=>if x.1=1 then x.2.1.map (λc=>((1:Int),[c],(0:Int)))else[x]
theorem qC(t s:List UInt8)(f:List It)(hs:s≠[]):(t.map (λc=>((1:Int),[c],(0:Int)))).foldl aP (f++[(1,s,0)])=f++[(1,s++t,0)]:=by
 induction t generalizing s with
 | nil=>simp
 | cons c t ih=>
  simp only[List.map_cons,List.foldl_cons];rw[cS];simp only[if_true,List.cons_ne_nil,if_false];rw[ih (s++[c]) (by simp)];simp
theorem Gv(f:List It)(t:List UInt8):(t.map (λc=>((1:Int),[c],(0:Int)))).foldl aP f=aP f (1,t,0):=by
 cases t with
 | nil=>simp[aP]
 | cons c t=>
  simp only[List.map_cons,List.foldl_cons];rcases cG f with rfl|⟨g,y,rfl⟩
  ·rw[ek,ek];simp only[if_true,List.cons_ne_nil,if_false];exact qC t [c] [] (by simp)
  rw[cS,cS];simp only[if_true,List.cons_ne_nil,if_false]
  split
  ·rw[qC t _ _ (by simp)];simp
  rw[qC t [c] (g++[y]) (by simp)];simp
end Go.Proofs.YthoemdibbldndaaGreatDoor.St
namespace Go.Proofs.YthoemdibbldndaaGreatDoor.St
def nameOf(s:List UInt8):List UInt8:=s.takeWhile (λc=>decide (c.toNat≠32))
def fC(c:UInt8):Bool:=decide (32<=c.toNat/\c.toNat<=126/\c.toNat≠60/\c.toNat≠62/\c.toNat≠123/\c.toNat≠125)
def aI(s:List UInt8):Bool:=
 decide (s.length<=64)&&(s.all fC&&(aB (nameOf s)&&((decide ((nameOf s).length=s.length) || decide ((nameOf s).length+1<s.length))&&(s.getLast? != some 47))))
def aJ(k:Int):Bool:=decide (k=2\/k=3\/k=4)
def bw(x y:It):Bool:=aJ y.1&&(decide (y.2.2=x.2.2)&&(decide (x.1≠3) || (decide (y.1≠2) || decide (nameOf y.2.1≠x.2.1))))
def bf(before:List It)(x:It):Int:=
 if x.1=1 then(if x.2.1=[]\/x.2.2≠0\/(∃y,before.getLast?=some y/\y.1=1)then 1 else 0)
 else if x.1=5 then(if aB x.2.1=true/\x.2.2=0 then 0 else 1)
 else if x.1=2\/x.1=4 then(if aI x.2.1=true/\1<=x.2.2/\x.2.2<=999 then(if before.any (bw x)then 7 else 0)else 1)
 else if x.1=3 then(if aB x.2.1=true/\1<=x.2.2/\x.2.2<=999 then(if before.any (bw x)then 7 else 0)else 1)
 else 1
def a7(x:It):Nat:=if x.1=1 then x.2.1.length else 1
def ay(f:List It):Nat:=(f.map a7).sum
def cI:List It->List It->Int
 | _,[]=>0
 | b,x :: r=>if bf b x≠0 then bf b x else cI (b++[x]) r
def bJ(f:List It):Int:=if 512<f.length\/1024<ay f then 3 else cI [] f
theorem jN(f:List It)(x:It):ay (f++[x])=ay f+a7 x:=by simp[ay]
def br(a b:Nat):Nat->List It->List It
 | _,[]=>[]
 | at',x :: r=>
  (if x.1=1 then(if max a at' - at'<min b (at'+x.2.1.length)-at' then[(1,(x.2.1.take (min b (at'+x.2.1.length)-at')).drop (max a at' - at'),x.2.2)]else[])
   else(if a<=at'/\at'<b then[x]else[]))++br a b (at'+a7 x) r
theorem tT(a b:Nat)(f:List It)(x:It):∀at',br a b at' (f++[x])=br a b at' f++br a b (at'+ay f) [x]:=by
 induction f with
 | nil=>intro at';simp[br,ay]
 | cons y f ih=>
  intro at';rw[List.cons_append,br,br,ih];rw[show at'+ay (y :: f)=at'+a7 y+ay f by simp[ay];omega];simp[List.append_assoc]
def bu(s:List UInt8):Bool:=decide (s=[112]\/s=[104]\/s=[108,105]\/s=[116,100]\/s=[116,105,116,108,101])
def bh(fmt:Int)(c:UInt8):List UInt8:=
 if fmt=1 then(if c.toNat=60 then[38,108,116,59]else if c.toNat=38 then[38,97,109,112,59]else if c.toNat=123 then[38,108,98,59]else[c])
 else if fmt=2 then(if c.toNat=10 then[92,110]else if c.toNat=9 then[92,116]else if c.toNat=13 then[92,114]else if c.toNat=92\/c.toNat=123 then[92,c]else[c])
 else(if c.toNat=34\/c.toNat=123 then[c,c]else[c])
def aH(fmt:Int)(x:It):List UInt8:=
 if x.1=1 then x.2.1.flatMap (bh fmt)else if x.1=2 then[60]++x.2.1++[62]else if x.1=3 then[60,47]++x.2.1++[62]else if x.1=4 then[60]++x.2.1++[47,62]else if x.1=5 then[123]++x.2.1++[125]else[]
def bp(fmt:Int)(x:It):Bool:=aJ x.1&&(decide (fmt≠1) || bu (nameOf x.2.1))
def bj(fmt:Int)(f:List It):List UInt8 × Int:=
 if bJ f≠0 then([],bJ f)else if f.any (bp fmt)then([],7)else(f.flatMap (aH fmt),0)
theorem kJ(fmt:Int)(c:UInt8):1<=(bh fmt c).length/\(bh fmt c).length<=5:=by
 unfold bh
 repeat' split
 all_goals simp
end Go.Proofs.YthoemdibbldndaaGreatDoor.St
namespace Go.Proofs.YthoemdibbldndaaGreatDoor
def bc(f:List St.It):Nat:=(f.map λx=>x.2.1.length).sum
theorem cR(f:List St.It)(x:St.It):bc (f++[x])=bc f+x.2.1.length:=by simp[bc]
theorem mA(f:List St.It)(x:St.It):bc (St.aP f x)<=bc f+x.2.1.length:=by
 rcases St.cG f with rfl|⟨a,b,rfl⟩
 ·rw[St.ek];repeat' split
  all_goals simp[bc]
 rw[St.cS];repeat' split
 all_goals simp[bc]<;>omega
theorem j1(f:List St.It)(k:Nat)(h:k<f.length):bc (f.take (k+1))=bc (f.take k)+f[k].2.1.length:=by
 rw[List.take_add_one,List.getElem?_eq_getElem h];exact cR _ _
theorem fS(f:List St.It)(k:Nat):bc (f.take k)<=bc f:=by
 have:bc f=bc (f.take k)+bc (f.drop k):=by
  conv=>lhs;rw[<-List.take_append_drop k f]
  unfold bc;rw[List.map_append,List.sum_append]
 omega
theorem Ik(f:List St.It)(k:Nat)(h:k<f.length):St.bH (f.take (k+1))=St.aP (St.bH (f.take k)) f[k]:=by
 rw[List.take_add_one,List.getElem?_eq_getElem h];exact St.eE _ _
end Go.Proofs.YthoemdibbldndaaGreatDoor
namespace Go.Proofs.YthoemdibbldndaaGreatDoor.St
def stepT(op:List It)(c:Nat)(k:Int)(t:List UInt8):Option (Int × List It × Nat):=
 if k=3 then(match op.getLast? with|none=>none|some o=>if nameOf o.2.1=t then some (o.2.2,op.dropLast,c)else none)
 else if k=2 then some ((c:Int)+1,op++[(2,t,(c:Int)+1)],c+1)
 else if k=4 then some ((c:Int)+1,op,c+1)
 else some (0,op,c)
abbrev gg:=List It × List Nat × Nat × Int
def gD(a d:Nat)(f:List It)(cuts:List Nat)(op:List It):gg:=if op=[]then(f,cuts++[d],0,0)else([],[],a,7)
def dl(E:List UInt8->El):Nat->List UInt8->Nat->Nat->List It->List Nat->List It->Nat->gg
 | 0,_,a,d,f,cuts,op,_=>gD a d f cuts op
 | fuel+1,l,a,d,f,cuts,op,c=>
  if l=[]then gD a d f cuts op else
  match E l with
  | none=>([],[],a,2)
  | some (k,t,n)=>
   if k=0 then dl E fuel (l.drop n) (a+n) d f cuts op c else
   match stepT op c k t with
   | none=>([],[],a,7)
   | some (i,b7,c')=>
    if 512<(aP f (k,t,i)).length\/1024<=cuts.length then([],[],a,3)else
    dl E fuel (l.drop n) (a+n) (a+n) (aP f (k,t,i)) (cuts++[d]) b7 c'
section
variable {E:List UInt8->El} {l:List UInt8} {k:Int} {t:List UInt8} {n:Nat} {op b7:List It} {c c':Nat} {i:Int}
theorem fX(fuel a d:Nat)(f:List It)(cuts:List Nat):dl E fuel [] a d f cuts op c=gD a d f cuts op:=by cases fuel<;>simp[dl]
theorem jH(fuel a d:Nat)(f:List It)(cuts:List Nat)(h0:l≠[])(h:E l=none):dl E (fuel+1) l a d f cuts op c=([],[],a,2):=by
 rw[dl,if_neg h0,h]
theorem lc(fuel a d:Nat)(f:List It)(cuts:List Nat)(h0:l≠[])(h:E l=some (0,t,n)):dl E (fuel+1) l a d f cuts op c=dl E fuel (l.drop n) (a+n) d f cuts op c:=by
 rw[dl,if_neg h0,h];simp only[if_true]
theorem ma(fuel a d:Nat)(f:List It)(cuts:List Nat)(h0:l≠[])(h:E l=some (k,t,n))(hk:k≠0)(hs:stepT op c k t=none):dl E (fuel+1) l a d f cuts op c=([],[],a,7):=by
 rw[dl,if_neg h0,h];simp only;rw[if_neg hk,hs]
theorem jG(fuel a d:Nat)(f:List It)(cuts:List Nat)(h0:l≠[])(h:E l=some (k,t,n))(hk:k≠0)(hs:stepT op c k t=some (i,b7,c'))(hf:512<(aP f (k,t,i)).length\/1024<=cuts.length):dl E (fuel+1) l a d f cuts op c=([],[],a,3):=by
 rw[dl,if_neg h0,h];simp only;rw[if_neg hk,hs];simp only;rw[if_pos hf]
theorem iQ(fuel a d:Nat)(f:List It)(cuts:List Nat)(h0:l≠[])(h:E l=some (k,t,n))(hk:k≠0)(hs:stepT op c k t=some (i,b7,c'))(hf:¬(512<(aP f (k,t,i)).length\/1024<=cuts.length)) :
  dl E (fuel+1) l a d f cuts op c=dl E fuel (l.drop n) (a+n) (a+n) (aP f (k,t,i)) (cuts++[d]) b7 c':=by
 rw[dl,if_neg h0,h];simp only;rw[if_neg hk,hs];simp only;rw[if_neg hf]
end
theorem oZ{E:List UInt8->El}(hE:th E):∀(fuel fuel':Nat) (l:List UInt8) (a d:Nat) (f:List It) (cuts:List Nat) (op:List It) (c:Nat),l.length<=fuel->l.length<=fuel'->dl E fuel l a d f cuts op c=dl E fuel' l a d f cuts op c
 | 0,fuel',l,a,d,f,cuts,op,c,h,_=>by
  have:l=[]:=List.eq_nil_of_length_eq_zero (by omega)
  subst this;rw[fX,fX]
 | fuel+1,0,l,a,d,f,cuts,op,c,_,h=>by
  have:l=[]:=List.eq_nil_of_length_eq_zero (by omega)
  subst this;rw[fX,fX]
 | fuel+1,fuel'+1,l,a,d,f,cuts,op,c,h,h'=>by
  by_cases h0:l=[]
  ·subst h0;rw[fX,fX]
  cases hs:E l with
  | none=>rw[jH _ _ _ _ _ h0 hs,jH _ _ _ _ _ h0 hs]
  | some x=>
   obtain⟨k,t,n⟩:=x;have hn:=hE _ _ _ _ hs;have hl:(l.drop n).length<=fuel/\(l.drop n).length<=fuel':=by simp;omega
   by_cases hk:k=0
   ·subst hk;rw[lc _ _ _ _ _ h0 hs,lc _ _ _ _ _ h0 hs];exact oZ hE fuel fuel' _ _ _ _ _ _ _ hl.1 hl.2
   cases ht:stepT op c k t with
   | none=>rw[ma _ _ _ _ _ h0 hs hk ht,ma _ _ _ _ _ h0 hs hk ht]
   | some y=>
    obtain⟨i,b7,c'⟩:=y
    by_cases hf:512<(aP f (k,t,i)).length\/1024<=cuts.length
    ·rw[jG _ _ _ _ _ h0 hs hk ht hf,jG _ _ _ _ _ h0 hs hk ht hf]
    rw[iQ _ _ _ _ _ h0 hs hk ht hf,iQ _ _ _ _ _ h0 hs hk ht hf];exact oZ hE fuel fuel' _ _ _ _ _ _ _ hl.1 hl.2
def eD(E:List UInt8->El)(l:List UInt8)(a d:Nat)(f:List It)(cuts:List Nat)(op:List It)(c:Nat):gg:=dl E l.length l a d f cuts op c
theorem xU(E:List UInt8->El)(a d:Nat)(f:List It)(cuts:List Nat)(op:List It)(c:Nat):eD E [] a d f cuts op c=gD a d f cuts op:=fX _ _ _ _ _
theorem D6{l:List UInt8}(h0:l≠[]):∃m,l.length=m+1:=⟨l.length-1,by cases l;exact absurd rfl h0;simp⟩
section
variable {E:List UInt8->El} {l:List UInt8} {k:Int} {t:List UInt8} {n:Nat} {op b7:List It} {c c':Nat} {i:Int}
theorem EI(hE:th E)(a d:Nat)(f:List It)(cuts:List Nat)(h0:l≠[])(h:E l=some (k,t,n))(hk:k≠0)(hs:stepT op c k t=some (i,b7,c'))(hf:¬ES f (k,t,i) cuts) :
  eD E l a d f cuts op c=eD E (l.drop n) (a+n) (a+n) (aP f (k,t,i)) (cuts++[d]) b7 c':=by
 unfold eD;obtain⟨m,hm⟩:=D6 h0;have hn:=hE _ _ _ _ h;rw[hm,iQ _ _ _ _ _ h0 h hk hs hf];exact oZ hE _ _ _ _ _ _ _ _ _ (by simp;omega) (by simp)
end
theorem qK{E:List UInt8->El}(hE:∀l k t n,E l=some (k,t,n)->k=0\/k=1\/k=5):∀(fuel:Nat) (l:List UInt8) (a d:Nat) (f:List It) (cuts:List Nat) (c:Nat),dl E fuel l a d f cuts [] c=dec E fuel l a d f cuts
 | 0,l,a,d,f,cuts,c=>by simp[dl,dec,gD]
 | fuel+1,l,a,d,f,cuts,c=>by
  by_cases h0:l=[]
  ·subst h0;rw[fX];simp[dec,gD]
  cases hs:E l with
  | none=>rw[jH _ _ _ _ _ h0 hs];rw[dec,if_neg h0,hs]
  | some x=>
   obtain⟨k,t,n⟩:=x
   by_cases hk:k=0
   ·subst hk;rw[lc _ _ _ _ _ h0 hs,qK hE fuel];rw[dec,if_neg h0,hs];simp only[if_true]
   have ht:stepT [] c k t=some (0,[],c):=by
    have:=hE _ _ _ _ hs
    unfold stepT;rw[if_neg (by omega),if_neg (by omega),if_neg (by omega)]
   by_cases hf:512<(aP f (k,t,0)).length\/1024<=cuts.length
   ·rw[jG _ _ _ _ _ h0 hs hk ht hf];rw[dec,if_neg h0,hs];simp only;rw[if_neg hk,if_pos hf]
   rw[iQ _ _ _ _ _ h0 hs hk ht hf,qK hE fuel];rw[dec,if_neg h0,hs];simp only;rw[if_neg hk,if_neg hf]
def jE(E:List UInt8->El)(b:List UInt8)(x:It):Prop:=b≠[]/\x.1≠0/\∀rest,E (b++rest)=some (x.1,x.2.1,b.length)
def dY:List It->List It->Nat->Option (List It × Nat)
 | [],op,c=>some (op,c)
 | p :: ps,op,c=>match stepT op c p.1 p.2.1 with
  | none=>none
  | some (i,b7,c')=>if i=p.2.2 then dY ps b7 c' else none
theorem je:∀(ps qs:List It) (op:List It) (c:Nat) {b7:List It} {c':Nat},dY ps op c=some (b7,c')->dY (ps++qs) op c=dY qs b7 c'
 | [],qs,op,c,b7,c',h=>by simp only[dY,Option.some.injEq,Prod.mk.injEq]at h;obtain⟨rfl,rfl⟩:=h;rfl
 | p :: ps,qs,op,c,b7,c',h=>by
  rw[List.cons_append,dY];rw[dY]at h;cases hs:stepT op c p.1 p.2.1 with
  | none=>rw[hs]at h;cases h
  | some y=>
   obtain⟨i,pn,c2⟩:=y;rw[hs]at h;simp only at h |-
   split at h
   ·rename_i hi
    rw[if_pos hi];exact je ps qs pn c2 h
   cases h
end Go.Proofs.YthoemdibbldndaaGreatDoor.St
namespace Go.Proofs.YthoemdibbldndaaGreatDoor.St
def da(l:List UInt8):List UInt8:=(l.drop 1).takeWhile (λc=>decide (c.toNat≠62))
def eL(t:List UInt8):Option (Int × List UInt8):=
 if t.head?=some 47 then(if aB (t.drop 1)then some (3,t.drop 1)else none)
 else if t.getLast?=some 47 then(if aI t.dropLast then some (4,t.dropLast)else none)
 else if aI t then some (2,t)else none
def fR(l:List UInt8):El:=if(da l).length+1<l.length then(eL (da l)).map λx=>(x.1,x.2,(da l).length+2)else none
def rp(l:List UInt8):El:=
 if([38,108,116,59]:List UInt8).isPrefixOf l then some (1,[60],4)
 else if([38,103,116,59]:List UInt8).isPrefixOf l then some (1,[62],4)
 else if([38,97,109,112,59]:List UInt8).isPrefixOf l then some (1,[38],5)
 else if([38,108,98,59]:List UInt8).isPrefixOf l then some (1,[123],4)
 else if([38,114,98,59]:List UInt8).isPrefixOf l then some (1,[125],4)else none
def sI(l:List UInt8):El:=match fR l with
 | none=>none
 | some (k,t,n)=>if bu (nameOf t)then none else some (k,t,n)
def bS:List UInt8->El
 | []=>none
 | c :: r=>if c.toNat=60 then sI (c :: r)else if c.toNat=38 then rp (c :: r)else if c.toNat=123 then(cJ (c :: r)).map λx=>(5,x.1,x.2)else some (1,[c],1)
theorem nS{c:UInt8}{r:List UInt8}(h:c.toNat=60):bS (c :: r)=sI (c :: r):=by rw[bS,if_pos h]
theorem iG{c:UInt8}{r:List UInt8}(h:c.toNat=38):bS (c :: r)=rp (c :: r):=by rw[bS,if_neg (by omega),if_pos h]
theorem kS{c:UInt8}{r:List UInt8}(h:c.toNat=123):bS (c :: r)=(cJ (c :: r)).map λx=>(5,x.1,x.2):=by rw[bS,if_neg (by omega),if_neg (by omega),if_pos h]
theorem jO{c:UInt8}{r:List UInt8}(h:c.toNat≠60)(h2:c.toNat≠38)(h3:c.toNat≠123):bS (c :: r)=some (1,[c],1):=by rw[bS,if_neg h,if_neg h2,if_neg h3]
theorem IX{t:List UInt8}{k:Int}{u:List UInt8}(h:eL t=some (k,u)):(k=2\/k=3\/k=4)/\u.length<=t.length:=by
 unfold eL at h
 split at h
 ·split at h
  ·simp only[Option.some.injEq,Prod.mk.injEq]at h;obtain⟨rfl,rfl⟩:=h;exact⟨by omega,by simp⟩
  cases h
 split at h
 ·split at h
  ·simp only[Option.some.injEq,Prod.mk.injEq]at h;obtain⟨rfl,rfl⟩:=h;exact⟨by omega,by simp⟩
  cases h
 split at h
 ·simp only[Option.some.injEq,Prod.mk.injEq]at h;obtain⟨rfl,rfl⟩:=h;exact⟨by omega,by omega⟩
 cases h
theorem kh{l:List UInt8}{k:Int}{t:List UInt8}{n:Nat}(h:fR l=some (k,t,n)):(k=2\/k=3\/k=4)/\2<=n/\n<=l.length/\t.length+2<=n:=by
 unfold fR at h
 split at h
 ·cases hq:eL (da l)with
  | none=>rw[hq]at h;cases h
  | some x=>
   obtain⟨k',u⟩:=x;rw[hq]at h;simp only[Option.map_some,Option.some.injEq,Prod.mk.injEq]at h;obtain⟨rfl,rfl,rfl⟩:=h;have:=IX hq
   exact⟨this.1,by omega,by omega,by omega⟩
 cases h
theorem xh{l:List UInt8}{k:Int}{t:List UInt8}{n:Nat}(h:rp l=some (k,t,n)):k=1/\1<=n/\n<=l.length/\t.length=1:=by
 unfold rp at h
 split at h
 ·rename_i hp
  simp only[Option.some.injEq,Prod.mk.injEq]at h;obtain⟨rfl,rfl,rfl⟩:=h;have:=(List.isPrefixOf_iff_prefix.1 hp).length_le
  exact⟨rfl,by omega,by simpa using this,rfl⟩
 split at h
 ·rename_i hp
  simp only[Option.some.injEq,Prod.mk.injEq]at h;obtain⟨rfl,rfl,rfl⟩:=h;have:=(List.isPrefixOf_iff_prefix.1 hp).length_le
  exact⟨rfl,by omega,by simpa using this,rfl⟩
 split at h
 ·rename_i hp
  simp only[Option.some.injEq,Prod.mk.injEq]at h;obtain⟨rfl,rfl,rfl⟩:=h;have:=(List.isPrefixOf_iff_prefix.1 hp).length_le
  exact⟨rfl,by omega,by simpa using this,rfl⟩
 split at h
 ·rename_i hp
  simp only[Option.some.injEq,Prod.mk.injEq]at h;obtain⟨rfl,rfl,rfl⟩:=h;have:=(List.isPrefixOf_iff_prefix.1 hp).length_le
  exact⟨rfl,by omega,by simpa using this,rfl⟩
 split at h
 ·rename_i hp
  simp only[Option.some.injEq,Prod.mk.injEq]at h;obtain⟨rfl,rfl,rfl⟩:=h;have:=(List.isPrefixOf_iff_prefix.1 hp).length_le
  exact⟨rfl,by omega,by simpa using this,rfl⟩
 cases h
theorem Ch{l:List UInt8}{x:List UInt8 × Nat}(h:cJ l=some x):2<=x.2/\x.2<=l.length/\x.1.length+2=x.2/\aB x.1=true:=by
 unfold cJ at h;simp only[]at h
 split at h
 ·rename_i hq
  rw[Bool.and_eq_true,decide_eq_true_eq]at hq;simp only[Option.some.injEq]at h;subst h;exact⟨by simp,by simp only;omega,rfl,hq.2⟩
 cases h
theorem oB{l:List UInt8}{k:Int}{t:List UInt8}{n:Nat}(h:bS l=some (k,t,n)):(k=1\/k=2\/k=3\/k=4\/k=5)/\1<=n/\n<=l.length/\t.length<=n:=by
 match l,h with
 | c :: r,h=>
  by_cases lg:c.toNat=60
  ·rw[nS lg]at h;unfold sI at h;cases hq:fR (c :: r)with
   | none=>rw[hq]at h;cases h
   | some x=>
    obtain⟨k',t',n'⟩:=x;rw[hq]at h;simp only at h
    split at h
    ·cases h
    simp only[Option.some.injEq,Prod.mk.injEq]at h;obtain⟨rfl,rfl,rfl⟩:=h;have:=kh hq
    exact⟨by omega,by omega,this.2.2.1,by omega⟩
  by_cases o7:c.toNat=38
  ·rw[iG o7]at h;have:=xh h
   exact⟨by omega,by omega,this.2.2.1,by omega⟩
  by_cases cT:c.toNat=123
  ·rw[kS cT]at h;cases hq:cJ (c :: r)with
   | none=>rw[hq]at h;cases h
   | some x=>
    rw[hq]at h;simp only[Option.map_some,Option.some.injEq,Prod.mk.injEq]at h;obtain⟨rfl,rfl,rfl⟩:=h;have:=Ch hq
    exact⟨by omega,by omega,this.2.1,by omega⟩
  rw[jO lg o7 cT]at h;simp only[Option.some.injEq,Prod.mk.injEq]at h;obtain⟨rfl,rfl,rfl⟩:=h;exact⟨by omega,by omega,by simp,by simp⟩
theorem ly{t:List UInt8}(h:aI t=true):∀c∈t,c.toNat≠62/\c.toNat≠60:=by
 unfold aI at h;simp only[Bool.and_eq_true]at h;intro c hc;have:=List.all_eq_true.1 h.2.1 c hc
 simp only[fC,decide_eq_true_eq]at this;omega
theorem qn{t:List UInt8}(h:aB t=true):∀c∈t,c.toNat≠62/\c.toNat≠60/\c.toNat≠125/\c.toNat≠32/\c.toNat≠47:=by
 cases t with
 | nil=>intro c hc;cases hc
 | cons d r=>
  rw[aB]at h;simp only[Bool.and_eq_true,decide_eq_true_eq,kR]at h;obtain⟨_,h1,h2⟩:=h;intro c hc;rcases List.mem_cons.1 hc with rfl|hc
  ·omega
  have:=List.all_eq_true.1 h2 c hc
  simp only[eU,decide_eq_true_eq]at this;omega
theorem Ka{t rest:List UInt8}(h:∀c∈t,c.toNat≠62):da ([60]++t++[62]++rest)=t:=by
 unfold da;have e:([60]++t++[62]++rest).drop 1=t++(62 :: rest):=by simp
 rw[e,List.takeWhile_append_of_pos (λc hc=>decide_eq_true (h c hc)),List.takeWhile_cons_of_neg (by simp)];simp
theorem wv{t rest:List UInt8}{k:Int}{u:List UInt8}(h:∀c∈t,c.toNat≠62)(hi:eL t=some (k,u)):fR ([60]++t++[62]++rest)=some (k,u,t.length+2):=by
 unfold fR;rw[Ka h,if_pos (by simp),hi];rfl
theorem lz{t:List UInt8}(h:aI t=true):t≠[]/\t.head?≠some 47/\t.getLast?≠some 47/\aB (nameOf t)=true:=by
 unfold aI at h;simp only[Bool.and_eq_true]at h;obtain⟨_,_,hn,_,hl⟩:=h;refine⟨?_,?_,by simpa using hl,hn⟩
 ·intro e;subst e;simp[nameOf,aB]at hn
 intro e;cases t with
 | nil=>cases e
 | cons c r=>
  simp at e;subst e;have:nameOf (47 :: r)=47 :: nameOf r:=by unfold nameOf;rw[List.takeWhile_cons_of_pos (by decide)]
  rw[this,aB]at hn;simp[kR]at hn
theorem yZ{t:List UInt8}(h:aI t=true):eL t=some (2,t):=by
 obtain⟨_,h1,h2,_⟩:=lz h;unfold eL;rw[if_neg h1,if_neg h2,if_pos h]
theorem FY{t:List UInt8}(h:aI t=true):eL (t++[47])=some (4,t):=by
 obtain⟨h0,h1,_,_⟩:=lz h;unfold eL;rw[if_neg (by cases t with|nil=>exact absurd rfl h0|cons c r=>simpa using h1),if_pos (by simp),List.dropLast_concat,if_pos h]
theorem FX{t:List UInt8}(h:aB t=true):eL (47 :: t)=some (3,t):=by
 unfold eL;rw[if_pos (by rfl),List.drop_succ_cons,List.drop_zero,if_pos h]
theorem pO{t:List UInt8}(h:aB t=true):nameOf t=t:=by
 unfold nameOf;have:=List.takeWhile_append_of_pos (p:=λc:UInt8=>decide (c.toNat≠32)) (l₁:=t) (l₂:=[]) (λc hc=>decide_eq_true ((qn h c hc).2.2.2.1))
 simpa using this
def r5(p:It):Prop:=(∃c,p=(1,[c],0))\/(∃t,p=(5,t,0)/\aB t=true)\/
 (∃t i,(p=(2,t,i)\/p=(4,t,i))/\aI t=true/\bu (nameOf t)=false)\/(∃t i,p=(3,t,i)/\aB t=true/\bu t=false)
theorem vL{t rest:List UInt8}{k:Int}{u:List UInt8}(h:∀c∈t,c.toNat≠62)(hi:eL t=some (k,u))(hb:bu (nameOf u)=false):bS ([60]++t++[62]++rest)=some (k,u,t.length+2):=by
 have e:([60]++t++[62]++rest:List UInt8)=60 :: (t++[62]++rest):=by simp
 have:=wv (rest:=rest) h hi
 rw[e]at this;rw[e,nS (by rfl),sI,this];simp only[hb,Bool.false_eq_true,if_false]
theorem wm{t rest:List UInt8}(h:aB t=true):cJ ([123]++t++[125]++rest)=some (t,t.length+2):=by
 unfold cJ;have e:([123]++t++[125]++rest).drop 1=t++(125 :: rest):=by simp
 have e2:(t++(125 :: rest)).takeWhile (λc=>decide (c.toNat≠125))=t:=by
  rw[List.takeWhile_append_of_pos (λc hc=>decide_eq_true ((qn h c hc).2.2.1)),List.takeWhile_cons_of_neg (by simp)];simp
 simp only[e,e2];rw[decide_eq_true (by simp),h];rfl
theorem Ey(c:UInt8):jE bS (bh 1 c) (1,[c],0):=by
 refine⟨λe=>by have:=kJ 1 c;rw[e]at this;simp at this,by simp,λrest=>?_⟩;unfold bh;rw[if_pos rfl]
 by_cases lg:c.toNat=60
 ·rw[if_pos lg];have:c=60:=UInt8.toNat_inj.1 lg
  subst this
  show bS (38 :: _)=_
  rw[iG (by rfl)];rfl
 rw[if_neg lg]
 by_cases o7:c.toNat=38
 ·rw[if_pos o7];have:c=38:=UInt8.toNat_inj.1 o7
  subst this
  show bS (38 :: _)=_
  rw[iG (by rfl)];rfl
 rw[if_neg o7]
 by_cases cT:c.toNat=123
 ·rw[if_pos cT];have:c=123:=UInt8.toNat_inj.1 cT
  subst this
  show bS (38 :: _)=_
  rw[iG (by rfl)];rfl
 rw[if_neg cT]
 show bS (c :: rest)=_
 rw[jO lg o7 cT];rfl
theorem JT:jE bS [38,103,116,59] (1,[62],0):=by
 refine⟨by simp,by simp,λrest=>?_⟩
 show bS (38 :: _)=_
 rw[iG (by rfl)];rfl
theorem Kw:jE bS [38,114,98,59] (1,[125],0):=by
 refine⟨by simp,by simp,λrest=>?_⟩
 show bS (38 :: _)=_
 rw[iG (by rfl)];rfl
theorem Fv{p:It}(h:r5 p):jE bS (aH 1 p) p:=by
 rcases h with⟨c,rfl⟩|⟨t,rfl,ht⟩|⟨t,i,rfl|rfl,ht,hb⟩|⟨t,i,rfl,ht,hb⟩
 ·have e:aH 1 (1,[c],0)=bh 1 c:=by simp[aH]
  rw[e];exact Ey c
 ·have e:aH 1 (5,t,0)=[123]++t++[125]:=by simp[aH]
  rw[e];refine⟨by simp,by simp,λrest=>?_⟩;have e2:([123]++t++[125]++rest:List UInt8)=123 :: (t++[125]++rest):=by simp
  have hs:=wm (rest:=rest) ht;rw[e2]at hs;rw[e2,kS (by rfl),hs];simp
 ·have e:aH 1 (2,t,i)=[60]++t++[62]:=by simp[aH]
  rw[e];refine⟨by simp,by simp,λrest=>?_⟩;rw[vL (λc hc=>(ly ht c hc).1) (yZ ht) hb];simp
 ·have e:aH 1 (4,t,i)=[60]++(t++[47])++[62]:=by simp[aH]
  rw[e];refine⟨by simp,by simp,λrest=>?_⟩;rw[vL (λc hc=>by rcases List.mem_append.1 hc with hc|hc;exact(ly ht c hc).1;simp at hc;subst hc;decide) (FY ht) hb];simp
 have e:aH 1 (3,t,i)=[60]++(47 :: t)++[62]:=by simp[aH]
 rw[e];refine⟨by simp,by simp,λrest=>?_⟩;rw[vL (λc hc=>by rcases List.mem_cons.1 hc with rfl|hc;decide;exact(qn ht c hc).1) (FX ht) (by rw[pO ht];exact hb)];simp
end Go.Proofs.YthoemdibbldndaaGreatDoor.St
namespace Go.Proofs.YthoemdibbldndaaGreatDoor.St
def dR(l:List Int)(x:It):List Int:=if aJ x.1=true/\x.2.2 ∉ l then l++[x.2.2]else l
def jQ(f:List It):List Int:=f.foldl dR []
def fP(l:List Int)(x:It):It:=if aJ x.1 then(x.1,x.2.1,(l.idxOf x.2.2:Int)+1)else x
def mZ(f:List It):List It:=bH (f.map (fP (jQ f)))
def iT(c:Nat):List Int:=(List.range c).map λ(i:Nat)=>(i:Int)+1
theorem xw(c:Nat):iT (c+1)=iT c++[(c:Int)+1]:=by unfold iT;rw[List.range_succ,List.map_append];rfl
theorem qy(c:Nat):(iT c).length=c:=by simp[iT]
theorem mj{c:Nat}{i:Int}:i∈iT c ↔ 1<=i/\i<=c:=by
 unfold iT;rw[List.mem_map];constructor
 ·rintro ⟨j,hj,rfl⟩;have:=List.mem_range.1 hj
  omega
 rintro ⟨h1,h2⟩;exact⟨i.toNat-1,List.mem_range.2 (by omega),by omega⟩
theorem DB:∀(c:Nat) (i:Int),1<=i->i<=c->(iT c).idxOf i=i.toNat-1
 | 0,i,h1,h2=>by omega
 | c+1,i,h1,h2=>by
  rw[xw]
  by_cases h:i<=c
  ·rw[List.idxOf_append,if_pos (mj.2 ⟨h1,h⟩)];exact DB c i h1 h
  have hi:i=(c:Int)+1:=by omega
  subst hi;rw[List.idxOf_append,if_neg (λe=>by have:=(mj.1 e).2;omega),qy];simp<;>omega
theorem Il(t:List UInt8)(l:List Int):(t.map (λc=>((1:Int),[c],(0:Int)))).foldl dR l=l:=by
 induction t with
 | nil=>rfl
 | cons c t ih=>
  rw[List.map_cons,List.foldl_cons];have:dR l (1,[c],0)=l:=by unfold dR;rw[if_neg];intro h;exact absurd h.1 (by simp[aJ])
  rw[this];exact ih
theorem MI(f:List It)(l:List Int):(aN f).foldl dR l=f.foldl dR l:=by
 induction f generalizing l with
 | nil=>rfl
 | cons x f ih=>
  have e:aN (x :: f)=(if x.1=1 then x.2.1.map (λc=>((1:Int),[c],(0:Int)))else[x])++aN f:=by simp[aN]
  rw[e,List.foldl_append,List.foldl_cons,ih];congr 1
  split
  ·rename_i h
   rw[Il];unfold dR;rw[if_neg];intro h2;have:=h2.1
   rw[h]at this;simp[aJ]at this
  rfl
theorem DP:∀(ps op:List It) (c:Nat) {b7:List It} {c':Nat},dY ps op c=some (b7,c')->(∀o∈op,1<=o.2.2/\o.2.2<=c) ->
  ps.foldl dR (iT c)=iT c'/\(∀o∈b7,1<=o.2.2/\o.2.2<=c')/\c<=c'/\∀p∈ps,aJ p.1=true->1<=p.2.2/\p.2.2<=c'
 | [],op,c,b7,c',h,ho=>by
  simp only[dY,Option.some.injEq,Prod.mk.injEq]at h;obtain⟨rfl,rfl⟩:=h;exact⟨rfl,ho,Nat.le_refl _,λp hp=>by cases hp⟩
 | p :: ps,op,c,b7,c',h,ho=>by
  rw[dY]at h;cases hs:stepT op c p.1 p.2.1 with
  | none=>rw[hs]at h;cases h
  | some y=>
   obtain⟨i,pn,c2⟩:=y;rw[hs]at h;simp only at h
   split at h
   ·rename_i hi
    subst hi
    have key:dR (iT c) p=iT c2/\(∀o∈pn,1<=o.2.2/\o.2.2<=c2)/\c<=c2/\(aJ p.1=true->1<=p.2.2/\p.2.2<=c2):=by
     unfold stepT at hs
     split at hs
     ·rename_i h3
      cases hg:op.getLast? with
      | none=>rw[hg]at hs;cases hs
      | some o=>
       rw[hg]at hs;simp only at hs
       split at hs
       ·simp only[Option.some.injEq,Prod.mk.injEq]at hs;obtain⟨h5,rfl,rfl⟩:=hs;have AZ:o∈op:=List.mem_of_getLast? hg;have:=ho o AZ
        refine⟨?_,λq hq=>ho q (List.dropLast_subset _ hq),Nat.le_refl _,λ_=>by omega⟩;unfold dR;rw[if_neg];rintro ⟨_,hn⟩;exact hn (mj.2 (by omega))
       cases hs
     split at hs
     ·rename_i h3 h2
      simp only[Option.some.injEq,Prod.mk.injEq]at hs;obtain⟨h5,rfl,rfl⟩:=hs;refine⟨?_,λq hq=>?_,by omega,λ_=>by omega⟩
      ·unfold dR;rw[if_pos ⟨by rw[h2];rfl,λe=>by have:=(mj.1 e).2;omega⟩,xw,h5]
      rcases List.mem_append.1 hq with hq|hq
      ·have:=ho q hq;omega
      simp at hq;subst hq;simp only;omega
     split at hs
     ·rename_i h3 h2 h4
      simp only[Option.some.injEq,Prod.mk.injEq]at hs;obtain⟨h5,rfl,rfl⟩:=hs;refine⟨?_,λq hq=>by have:=ho q hq;omega,by omega,λ_=>by omega⟩;unfold dR;rw[if_pos ⟨by rw[h4];rfl,λe=>by have:=(mj.1 e).2;omega⟩,xw,h5]
     rename_i h3 h2 h4
     simp only[Option.some.injEq,Prod.mk.injEq]at hs;obtain⟨h5,rfl,rfl⟩:=hs;have hnt:aJ p.1=false:=by unfold aJ;simp[h2,h3,h4]
     refine⟨?_,ho,Nat.le_refl _,λe=>by rw[hnt]at e;cases e⟩;unfold dR;rw[if_neg (λe=>by rw[hnt]at e;cases e.1)]
    obtain⟨k1,k2,k3,k4⟩:=key;obtain⟨g1,g2,g3,g4⟩:=DP ps pn c2 h k2;refine⟨by rw[List.foldl_cons,k1];exact g1,g2,by omega,λq hq ht=>?_⟩;rcases List.mem_cons.1 hq with rfl|hq
    ·have:=k4 ht;omega
    exact g4 q hq ht
   cases h
theorem KA{f:List It}{op:List It}{c:Nat}(h:dY (aN f) [] 0=some (op,c)):jQ f=iT c/\f.map (fP (jQ f))=f:=by
 obtain⟨h1,_,_,h4⟩:=DP _ _ _ h λo ho=>by cases ho
 have hn:jQ f=iT c:=by rw[MI]at h1;exact h1
 refine⟨hn,?_⟩;rw[hn];refine(List.map_congr_left λx hx=>?_).trans (List.map_id f);unfold fP
 split
 ·rename_i ht
  have hne:x.1≠1:=λe=>by rw[e]at ht;simp[aJ]at ht
  have hm:x∈aN f:=by
   unfold aN;exact List.mem_flatMap.2 ⟨x,hx,by rw[if_neg hne];simp⟩
  obtain⟨g1,g2⟩:=h4 x hm ht;rw[DB c _ g1 g2];obtain⟨k,t,i⟩:=x;simp only at g1 g2 |-;have:((i.toNat-1:Nat):Int)+1=i:=by omega
  rw[this];rfl
 rfl
end Go.Proofs.YthoemdibbldndaaGreatDoor.St
namespace Go.Proofs.YthoemdibbldndaaGreatDoor.St
theorem Kf(f:List It)(x:It):ay (aP f x)=ay f+a7 x:=by
 rcases cG f with rfl|⟨a,b,rfl⟩
 ·rw[ek];unfold a7
  split
  ·rename_i h
   split
   ·rename_i h2;simp[ay,h2]
   simp[ay,a7]
  rename_i h;simp[ay,a7,h]
 rw[cS]
 split
 ·rename_i h
  split
  ·rename_i h2
   have:a7 x=0:=by unfold a7;rw[if_pos h,h2];rfl
   omega
  split
  ·rename_i h3
   rw[jN,jN];unfold a7;rw[if_pos rfl,if_pos h3,if_pos h];simp only[List.length_append];omega
  rw[jN,jN];congr 1;unfold a7;rw[if_pos rfl,if_pos h]
 rw[jN]
structure uW (L:Nat) (R:gg):Prop where
 nm:Nm R.1
 len:R.1.length<=512
 cl:R.2.1.length=ay R.1+1
 le:ay R.1<=1024
 bc:bc R.1<=L
 mono:R.2.1.Pairwise (·<=·)
 top:∀c∈R.2.1,c<=L
def pB(E:List UInt8->El):Prop:=∀l k t n,E l=some (k,t,n)->1<=n/\n<=l.length/\t.length<=n/\(k=1->t.length=1)
theorem GS{L:Nat}{l:List UInt8}{a d:Nat}{f:List It}{cuts:List Nat}{op:List It}(h1:Nm f)(h2:f.length<=512)(h3:cuts.length=ay f)(h4:cuts.length<=1024)(h5:(cuts++[d]).Pairwise (·<=·))(h6:d<=a)(h7:a+l.length<=L)(h8:bc f<=a)(he:(gD a d f cuts op).2.2.2=0):uW L (gD a d f cuts op):=by
 unfold gD at he |-
 split at he
 ·rename_i h
  rw[if_pos h];refine⟨h1,h2,by simp[h3],by simp only;omega,by simp only;omega,h5,λc hc=>?_⟩;rcases List.mem_append.1 hc with hc|hc
  ·have:=(List.pairwise_append.1 h5).2.2 c hc d (by simp);omega
  simp at hc;omega
 cases he
theorem tr{E:List UInt8->El}(hE:pB E){L:Nat}:∀(fuel:Nat) (l:List UInt8) (a d:Nat) (f:List It) (cuts:List Nat) (op:List It) (c:Nat),Nm f->f.length<=512->cuts.length=ay f->cuts.length<=1024->(cuts++[d]).Pairwise (·<=·)->d<=a->a+l.length<=L->bc f<=a ->
  (dl E fuel l a d f cuts op c).2.2.2=0->uW L (dl E fuel l a d f cuts op c)
 | 0,l,a,d,f,cuts,op,c,h1,h2,h3,h4,h5,h6,h7,h8,he=>by
  unfold dl at he |-;exact GS h1 h2 h3 h4 h5 h6 h7 h8 he
 | fuel+1,l,a,d,f,cuts,op,c,h1,h2,h3,h4,h5,h6,h7,h8,he=>by
  by_cases h0:l=[]
  ·subst h0;rw[fX]at he |-;exact GS h1 h2 h3 h4 h5 h6 h7 h8 he
  cases hq:E l with
  | none=>rw[jH _ _ _ _ _ h0 hq]at he;cases he
  | some x=>
   obtain⟨k,t,n⟩:=x;obtain⟨e1,e2,e3,e4⟩:=hE _ _ _ _ hq;have iR:(l.drop n).length=l.length-n:=List.length_drop
   by_cases hk:k=0
   ·subst hk;rw[lc _ _ _ _ _ h0 hq]at he |-;exact tr hE fuel _ _ _ _ _ _ _ h1 h2 h3 h4 h5 (by omega) (by omega) (by omega) he
   cases hs:stepT op c k t with
   | none=>rw[ma _ _ _ _ _ h0 hq hk hs]at he;cases he
   | some y=>
    obtain⟨i,b7,c'⟩:=y
    by_cases hf:512<(aP f (k,t,i)).length\/1024<=cuts.length
    ·rw[jG _ _ _ _ _ h0 hq hk hs hf]at he;cases he
    rw[iQ _ _ _ _ _ h0 hq hk hs hf]at he |-
    have hw:a7 (k,t,i)=1:=by
     unfold a7
     split
     ·rename_i hk1;exact e4 hk1
     rfl
    have Be:=mA f (k,t,i);refine tr hE fuel _ _ _ _ _ _ _ (fy h1 _) (by omega) ?_ (by simp;omega) ?_ (by omega) (by omega) ?_ he
    ·rw[List.length_append,List.length_singleton,Kf,hw,h3]
    ·rw[List.pairwise_append];refine⟨h5,by simp,λx hx y hy=>?_⟩;simp at hy;subst hy;rcases List.mem_append.1 hx with hx|hx
     ·have:=(List.pairwise_append.1 h5).2.2 x hx d (by simp);omega
     simp at hx;omega
    simp only at Be;omega
def b6(ps:List Pt):List UInt8:=ps.flatMap (·.2.2)
def fA(S:List UInt8->List Pt × Nat × Int)(ps:List Pt):Int:=if(S (b6 ps)).2.2=0/\(S (b6 ps)).1=ps then 0 else 11
def fO(ps:List Pt)(k:Int):Pt:=if 0<=k then(ps[k.toNat]?).getD (false,[],[])else(false,[],[])
def bL(D:List UInt8->gg)(ps:List Pt)(k:Int):gg:=if(fO ps k).1=true then D (fO ps k).2.2 else([],[],0,6)
def eI(n:Nat):Int->List (Int × Int)->Bool
 | _,[]=>true
 | at',r :: rs=>if r.1<at'\/r.2<r.1\/(n:Int)<r.2 then false else eI n r.2 rs
def iW(E:List It->List UInt8 × Int)(raw:List UInt8)(cuts:List Nat):Nat->List UInt8->List (Int × Int)->List (List It)->Except Int (List UInt8 × Nat)
 | at',s,r :: rs,t :: ts=>if(E t).2≠0 then .error (E t).2 else iW E raw cuts (cuts.getD r.2.toNat 0) (s++((raw.take (cuts.getD r.1.toNat 0)).drop at'++(E t).1)) rs ts
 | at',s,_,_=>.ok (s,at')
def ka(f:List It):Nat->List It->List (Int × Int)->List (List It)->List It × Nat
 | at',out,r :: rs,t :: ts=>ka f r.2.toNat (bH (bH (out++br at' r.1.toNat 0 f)++t)) rs ts
 | at',out,_,_=>(out,at')
def fw(f:List It)(rs:List (Int × Int))(ts:List (List It)):List It:=
 bH ((ka f 0 [] rs ts).1++br (ka f 0 [] rs ts).2 (ay f) 0 f)
def dI(ps:List Pt)(k:Nat)(s:List UInt8):List Pt:=ps.modify k λp=>(p.1,p.2.1,s)
def vZ(D:List UInt8->gg)(fmt:Int)(ps:List Pt)(k:Nat)(want:List It)(s:List UInt8):(Int × List Pt) × Int:=
 if(D s).2.2.2≠0 then((0,[]),(D s).2.2.2)else if(D s).1≠want then((0,[]),11)
 else if 65536<(b6 (dI ps k s)).length then((0,[]),3)else((fmt,dI ps k s),0)
def fh(D:List UInt8->gg)(S:List UInt8->List Pt × Nat × Int)(E:List It->List UInt8 × Int)(fmt:Int)(ps:List Pt)(k:Int)(rs:List (Int × Int))(ts:List (List It)):(Int × List Pt) × Int:=
 if fA S ps≠0 then((0,[]),fA S ps)else if(bL D ps k).2.2.2≠0 then((0,[]),(bL D ps k).2.2.2)
 else if ts.length≠rs.length\/eI (ay (bL D ps k).1) 0 rs=false then((0,[]),1)
 else match iW E (fO ps k).2.2 (bL D ps k).2.1 0 [] rs ts with
  | .error e=>((0,[]),e)
  | .ok (s,at')=>vZ D fmt ps k.toNat (mZ (fw (bL D ps k).1 rs ts)) (s++(fO ps k).2.2.drop at')
end Go.Proofs.YthoemdibbldndaaGreatDoor.St
