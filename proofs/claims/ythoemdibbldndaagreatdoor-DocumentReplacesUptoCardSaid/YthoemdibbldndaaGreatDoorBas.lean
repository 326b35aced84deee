/- Plain: names, and small facts on bytes of strings. -/
set_option linter.all false
namespace Go.Proofs.YthoemdibbldndaaGreatDoor.St
def lZ(c:UInt8):Bool:=decide (97<=c.toNat/\c.toNat<=122)
def fC(c:UInt8):Bool:=decide ((97<=c.toNat/\c.toNat<=122)\/(48<=c.toNat/\c.toNat<=57)\/c.toNat=45)
def aS:List UInt8->Bool
 | []=>false
 | c :: r=>decide (r.length<=23)&&(lZ c&&r.all fC)
theorem drop_at(s:ByteArray)(k:Nat)(h:k<s.size):s.1.1.drop k=s[k] :: s.1.1.drop (k+1):=by
 rw[List.drop_eq_getElem_cons (by simpa using h)];rfl
theorem ft(s:ByteArray)(h:0<s.size):s.1.1=s[0] :: s.1.1.drop 1:=by
 have:=drop_at s 0 h;simpa using this
theorem aD(s:ByteArray):s.1.1.length=s.size:=by simp
theorem fI(s:ByteArray)(k:Nat)(h:s.size<=k):s.1.1.drop k=[]:=List.drop_of_length_le (by simpa using h)
theorem vS(s:ByteArray)(h:s.size=0):aS s.1.1=false:=by
 have:s.1.1=[]:=List.eq_nil_of_length_eq_zero (by simpa using h)
 rw[this];rfl
theorem yx(s:ByteArray)(h:24<s.size):aS s.1.1=false:=by
 rw[ft s (by omega),aS];have:¬(s.1.1.drop 1).length<=23:=by simp;omega
 rw[decide_eq_false this];rfl
theorem yv(s:ByteArray)(h:0<s.size)(hc:lZ s[0]=false):aS s.1.1=false:=by
 rw[ft s h,aS,hc];simp
theorem yy(s:ByteArray)(h:0<s.size)(QH:s.size<=24)(hc:lZ s[0]=true):aS s.1.1=(s.1.1.drop 1).all fC:=by
 have e:decide ((s.1.1.drop 1).length<=23)=true:=decide_eq_true (by simp;omega);rw[ft s h]
 show(decide ((s.1.1.drop 1).length<=23)&&(lZ s[0]&&(s.1.1.drop 1).all fC))=_
 rw[e,hc];simp
theorem zY(s:ByteArray)(k:Nat)(h:k<s.size):(s.1.1.drop k).all fC=(fC s[k]&&(s.1.1.drop (k+1)).all fC):=by
 rw[drop_at s k h,List.all_cons]
theorem mc:∀(m l:List UInt8),(l.take m.length==m)=m.isPrefixOf l
 | [],l=>by simp
 | c :: m,[]=>by simp[List.isPrefixOf]
 | c :: m,d :: l=>by
  rw[List.length_cons,List.take_succ_cons,List.isPrefixOf,<-mc m l];have e:(d==c)=(c==d):=by rw[Bool.eq_iff_iff,beq_iff_eq,beq_iff_eq];exact eq_comm
  show(d==c&&(l.take m.length==m))=(c==d&&(l.take m.length==m))
  rw[e]
theorem uL(m l:List UInt8)(h:l.length<m.length):m.isPrefixOf l=false:=by
 rw[<-mc,beq_eq_false_iff_ne];intro e;have:=congrArg List.length e
 simp at this;omega
def cH(l:List UInt8):Option (List UInt8 × Nat):=
 let n:=(l.drop 1).takeWhile (λc=>decide (c.toNat≠125))
 if decide (n.length+1<l.length)&&aS n then some (n,n.length+2)else none
def ch:List UInt8->Option (Int × List UInt8 × Nat)
 | []=>none
 | c :: r=>
  if c.toNat=34 then(if([34,34]:List UInt8).isPrefixOf (c :: r)then some (1,[34],2)else none)
  else if c.toNat=123 then(if([123,123]:List UInt8).isPrefixOf (c :: r)then some (1,[123],2)else(cH (c :: r)).map λx=>(5,x.1,x.2))
  else some (1,[c],1)
end Go.Proofs.YthoemdibbldndaaGreatDoor.St
namespace Go.Proofs.YthoemdibbldndaaGreatDoor.St
abbrev It:=Int × List UInt8 × Int
def aV(f:List It)(x:It):List It:=
 if x.1=1 then
  if x.2.1=[]then f else
  match f.getLast? with
  | some y=>if y.1=1 then f.dropLast++[(1,y.2.1++x.2.1,0)]else f++[(1,x.2.1,0)]
  | none=>f++[(1,x.2.1,0)]
 else f++[x]
def bu(f:List It):List It:=f.foldl aV []
theorem gv(x:It):aV [] x=if x.1=1 then if x.2.1=[]then[]else[(1,x.2.1,0)]else[x]:=by
 unfold aV;split
 ·rfl
 rfl
theorem dJ(f:List It)(y x:It):aV (f++[y]) x=if x.1=1 then if x.2.1=[]then f++[y]else if y.1=1 then f++[(1,y.2.1++x.2.1,0)]else f++[y]++[(1,x.2.1,0)]else f++[y]++[x]:=by
 unfold aV;simp only[List.getLast?_append,List.getLast?_singleton,Option.some_or,List.dropLast_concat]
theorem ew(f:List It)(x:It):bu (f++[x])=aV (bu f) x:=by unfold bu;rw[List.foldl_append];rfl
theorem dD{α:Type}(l:List α):l=[]\/∃a b,l=a++[b]:=by
 rcases List.eq_nil_or_concat l with h|⟨a,b,h⟩
 ·exact .inl h
 exact .inr ⟨a,b,by simpa using h⟩
theorem ic(f:List It)(x:It):(aV f x).length<=f.length+1/\f.length<=(aV f x).length:=by
 rcases dD f with rfl|⟨a,b,rfl⟩
 ·rw[gv];repeat' split
  all_goals simp
 rw[dJ];repeat' split
 all_goals simp
theorem tP:∀(n:Nat) (f:List It),f.length=n->(bu f).length<=n
 | 0,f,h=>by rw[List.eq_nil_of_length_eq_zero h];simp[bu]
 | n+1,f,h=>by
  rcases dD f with rfl|⟨a,b,rfl⟩
  ·simp at h
  rw[ew];have h1:=(ic (bu a) b).1;have h2:=tP n a (by simpa using h);omega
theorem iO(f:List It):(bu f).length<=f.length:=tP _ f rfl
def Nm(f:List It):Prop:=bu f=f
theorem sy:Nm []:=rfl
theorem LQ{f:List It}{y:It}(h:Nm (f++[y])):Nm f/\(y.1=1->y.2.1≠[]/\y.2.2=0/\∀z,f.getLast?=some z->z.1≠1):=by
 unfold Nm at h;rw[ew]at h;have hl:=iO f;rcases dD (bu f)with h0|⟨a,b,h0⟩
 ·rw[h0,gv]at h
  by_cases h1:y.1=1
  ·rw[if_pos h1]at h
   by_cases h2:y.2.1=[]
   ·rw[if_pos h2]at h;simp at h
   rw[if_neg h2]at h
   have:f=[]:=by
    have h3:=congrArg List.length h;simp at h3;exact h3
   subst this;simp only[List.nil_append,List.cons.injEq,and_true]at h;exact⟨rfl,λ_=>⟨h2,by rw[<-h],λz hz=>by simp at hz⟩⟩
  rw[if_neg h1]at h
  have:f=[]:=by
   have h3:=congrArg List.length h;simp at h3;exact h3
  subst this;exact⟨rfl,λh2=>absurd h2 h1⟩
 rw[h0,dJ]at h;rw[h0]at hl;simp at hl
 by_cases h1:y.1=1
 ·rw[if_pos h1]at h
  by_cases h2:y.2.1=[]
  ·rw[if_pos h2]at h;have h3:=congrArg List.length h;simp at h3;omega
  rw[if_neg h2]at h
  by_cases h4:b.1=1
  ·rw[if_pos h4]at h;have h3:=congrArg List.length h;simp at h3;omega
  rw[if_neg h4]at h;have h5:=List.append_inj' h rfl;have h6:f=a++[b]:=h5.1.symm;simp only[List.cons.injEq,and_true]at h5;refine⟨by unfold Nm;rw[h0,h6],λ_=>⟨h2,by rw[<-h5.2],λz hz=>?_⟩⟩;rw[h6]at hz;simp at hz;rw[<-hz];exact h4
 rw[if_neg h1]at h;have h5:=List.append_inj' h rfl;exact⟨by unfold Nm;rw[h0,h5.1],λh2=>absurd h2 h1⟩
theorem gC{f:List It}(h:Nm f)(x:It):Nm (aV f x):=by
 have hn:=h;unfold Nm at h;rcases dD f with rfl|⟨a,b,rfl⟩
 ·rw[gv]
  by_cases h1:x.1=1
  ·rw[if_pos h1]
   by_cases h2:x.2.1=[]
   ·rw[if_pos h2];rfl
   rw[if_neg h2];unfold Nm bu;simp[aV,h2]
  rw[if_neg h1];unfold Nm bu;simp[aV,h1]
 rw[dJ]
 by_cases h1:x.1=1
 ·rw[if_pos h1]
  by_cases h2:x.2.1=[]
  ·rw[if_pos h2];exact hn
  rw[if_neg h2]
  by_cases h4:b.1=1
  ·rw[if_pos h4];obtain⟨ha,hb⟩:=LQ hn;obtain⟨hb1,_,hb3⟩:=hb h4;unfold Nm at ha |-;rw[ew,ha];rcases dD a with rfl|⟨a',b',rfl⟩
   ·rw[gv];simp[hb1]
   rw[dJ];have:=hb3 b' (by simp)
   simp[this,hb1]
  rw[if_neg h4];unfold Nm;rw[ew,h,dJ];simp[h4,h2]
 rw[if_neg h1];unfold Nm;rw[ew,h,dJ];simp[h1]
abbrev El:=Option (Int × List UInt8 × Nat)
def dec(E:List UInt8->El):Nat->List UInt8->Nat->Nat->List It->List Nat->List It × List Nat × Nat × Int
 | 0,_,_,done,f,cuts=>(f,cuts++[done],0,0)
 | fuel+1,l,at',done,f,cuts=>
  if l=[]then(f,cuts++[done],0,0)else
  match E l with
  | none=>([],[],at',2)
  | some (k,t,n)=>
   if k=0 then dec E fuel (l.drop n) (at'+n) done f cuts else
   if 512<(aV f (k,t,0)).length\/1024<=cuts.length then([],[],at',3)else
   dec E fuel (l.drop n) (at'+n) (at'+n) (aV f (k,t,0)) (cuts++[done])
def b8(t:List UInt8):List It:=if t=[]then[]else[(1,t,0)]
def fz(f:List It):Prop:=∀z,f.getLast?=some z->z.1≠1
theorem qj{f:List It}{t:List UInt8}(h:fz f)(c:UInt8):aV (f++b8 t) (1,[c],0)=f++b8 (t++[c]):=by
 unfold b8
 by_cases ht:t=[]
 ·subst ht;simp only[if_true,List.append_nil,List.nil_append];rw[if_neg (by simp)];rcases dD f with rfl|⟨a,b,rfl⟩
  ·rw[gv];rfl
  rw[dJ];have:=h b (by simp)
  simp[this]
 rw[if_neg ht,if_neg (by simp),dJ];simp
theorem qk{f:List It}(k:Int)(t:List UInt8)(h:k≠1):aV f (k,t,0)=f++[(k,t,0)]:=by unfold aV;rw[if_neg h]
theorem lx(f:List It)(k:Int)(t:List UInt8)(i:Int)(h:k≠1):fz (f++[(k,t,i)]):=by
 intro z hz;simp at hz;rw[<-hz];exact h
theorem o5:fz []:=by intro z hz;simp at hz
theorem tD(t:List UInt8):(b8 t).length=if t=[]then 0 else 1:=by unfold b8;split<;>simp
def aT(ni nt nc:Nat)(text:Bool):Bool:=decide (512<ni+(if 0<nt then 1 else 0)+(if text=false\/nt=0 then 1 else 0)\/1024<nc+1)
theorem kJ{f:List It}{t:List UInt8}(h:fz f)(c:UInt8)(nc:Nat):(512<(aV (f++b8 t) (1,[c],0)).length\/1024<=nc) ↔ aT f.length t.length nc true=true:=by
 rw[qj h,List.length_append,tD,if_neg (by simp)];unfold aT;rw[decide_eq_true_iff];rcases Nat.eq_zero_or_pos t.length with h0|h0
 ·rw[if_neg (by omega),if_pos (by simp[h0])];omega
 rw[if_pos h0,if_neg (by simp;intro e;simp[e]at h0)];omega
theorem jA{f:List It}{t:List UInt8}(k:Int)(s:List UInt8)(nc:Nat)(hk:k≠1):(512<(aV (f++b8 t) (k,s,0)).length\/1024<=nc) ↔ aT f.length t.length nc false=true:=by
 rw[qk _ _ hk,List.length_append,List.length_append,tD];unfold aT;rw[decide_eq_true_iff];rcases Nat.eq_zero_or_pos t.length with h0|h0
 ·rw[if_pos (List.eq_nil_of_length_eq_zero h0),if_neg (by omega),if_pos (by simp)];simp;omega
 rw[if_neg (by intro e;simp[e]at h0),if_pos h0,if_pos (by simp)];simp;omega
end Go.Proofs.YthoemdibbldndaaGreatDoor.St
namespace Go.Proofs.YthoemdibbldndaaGreatDoor.St
def bX:List UInt8->Option Nat
 | []=>none
 | c :: r=>if c.toNat=34 then(match r with
   | []=>some 1
   | d :: r'=>if d.toNat=34 then(bX r').map (·+2)else some 1)else(bX r).map (·+1)
def fi(c:UInt8):Bool:=decide (c.toNat≠34/\c.toNat≠44/\c.toNat≠10)
def fc:List UInt8->Bool
 | []=>true
 | c :: _=>decide (c.toNat=44\/c.toNat=10)
def dx(l:List UInt8):Option (Nat × Bool):=
 match l with
 | []=>some (0,false)
 | c :: r=>if c.toNat=34 then(match bX r with
   | none=>none
   | some n=>if fc (r.drop n)then some (n+1,true)else none)
  else
   let n:=(l.takeWhile fi).length
   if fc (l.drop n)then some (n,false)else none
abbrev Pt:=Bool × List UInt8 × List UInt8
def be(d:List UInt8)(a b:Nat):List UInt8:=(d.take b).drop a
abbrev PS:=List Pt × Nat
def bQ(d:List UInt8)(s:PS)(a b:Nat)(key:List UInt8):PS:=(s.1++[(false,[],be d s.2 a),(true,key,be d a b)],b)
def dt(d:List UInt8)(s:PS):List Pt:=s.1++[(false,[],d.drop s.2)]
def fB(d:List UInt8):Nat->Nat->Nat->Nat->Nat->Except (Nat × Int) (Nat × Nat × Nat × Nat)
 | 0,at',_,_,_=>.error (at',2)
 | fuel+1,at',n,texts,aN=>
  match dx (d.drop at')with
  | none=>.error (at',2)
  | some (k,_)=>
   let Q7:Bool:=be d at' (at'+k)==[116,101,120,116]
   let B8:=if Q7 then texts+1 else texts
   let IN:=if Q7 then n else aN
   match d.drop (at'+k)with
   | []=>.ok (at'+k,n+1,B8,IN)
   | c :: _=>if c.toNat=10 then .ok (at'+k,n+1,B8,IN)else fB d fuel (at'+k+1) (n+1) B8 IN
def eQ(dE:List UInt8->Nat × Int)(d:List UInt8)(W C:Nat)(key:List UInt8):Nat->Nat->Nat->PS->Except (Nat × Int) (Nat × Nat × PS)
 | 0,at',_,_=>.error (at',2)
 | fuel+1,at',n,s=>
  match dx (d.drop at')with
  | none=>.error (at',2)
  | some (k,q)=>
   if W<=n\/(n=C/\q=false)then .error (at',2)else
   if n=C/\(dE (be d (at'+1) (at'+k-1))).2≠0 then .error (at'+1+(dE (be d (at'+1) (at'+k-1))).1,(dE (be d (at'+1) (at'+k-1))).2)else
   let s':=if n=C then bQ d s (at'+1) (at'+k-1) key else s
   match d.drop (at'+k)with
   | []=>.ok (at'+k,n+1,s')
   | c :: _=>if c.toNat=10 then .ok (at'+k,n+1,s')else eQ dE d W C key fuel (at'+k+1) (n+1) s'
def cU(dE:List UInt8->Nat × Int)(dig:Nat->List UInt8)(d:List UInt8)(W C:Nat):Nat->Nat->Nat->PS->Except (Nat × Int) PS
 | 0,_,_,s=>.ok s
 | fuel+1,at',r,s=>
  if d.length<=at' then .ok s else
  match eQ dE d W C (dig r) (d.length+1) at' 0 s with
  | .error x=>.error x
  | .ok (e,n,s')=>if n<W then .error (at',2)else cU dE dig d W C fuel (e+1) (r+1) s'
def fq(dE:List UInt8->Nat × Int)(dig:Nat->List UInt8)(d:List UInt8):List Pt × Nat × Int:=
 if 65536<d.length then([],0,3)else
 match fB d (d.length+1) 0 0 0 0 with
 | .error (a,e)=>([],a,e)
 | .ok (e,n,texts,aN)=>
  if texts=0 then([],0,6)else
  if 1<texts then([],0,5)else
  match cU dE dig d n aN (d.length+1) (e+1) 1 ([],0)with
  | .error (a,e)=>([],a,e)
  | .ok s=>(dt d s,0,0)
end Go.Proofs.YthoemdibbldndaaGreatDoor.St
namespace Go.Proofs.YthoemdibbldndaaGreatDoor.St
def im(f:List It):List It:=f.flatMap λx=>if x.1=1 then x.2.1.map (λc=>((1:Int),[c],(0:Int)))else[x]
end Go.Proofs.YthoemdibbldndaaGreatDoor.St
namespace Go.Proofs.YthoemdibbldndaaGreatDoor.St
def nameOf(s:List UInt8):List UInt8:=s.takeWhile (λc=>decide (c.toNat≠32))
def fU(c:UInt8):Bool:=decide (32<=c.toNat/\c.toNat<=126/\c.toNat≠60/\c.toNat≠62/\c.toNat≠123/\c.toNat≠125)
def a7(s:List UInt8):Bool:=
 decide (s.length<=64)&&(s.all fU&&(aS (nameOf s)&&((decide ((nameOf s).length=s.length) || decide ((nameOf s).length+1<s.length))&&(s.getLast? != some 47))))
def bI(k:Int):Bool:=decide (k=2\/k=3\/k=4)
def cT(x y:It):Bool:=bI y.1&&(decide (y.2.2=x.2.2)&&(decide (x.1≠3) || (decide (y.1≠2) || decide (nameOf y.2.1≠x.2.1))))
def bo(before:List It)(x:It):Int:=
 if x.1=1 then(if x.2.1=[]\/x.2.2≠0\/(∃y,before.getLast?=some y/\y.1=1)then 1 else 0)
 else if x.1=5 then(if aS x.2.1=true/\x.2.2=0 then 0 else 1)
 else if x.1=2\/x.1=4 then(if a7 x.2.1=true/\1<=x.2.2/\x.2.2<=999 then(if before.any (cT x)then 7 else 0)else 1)
 else if x.1=3 then(if aS x.2.1=true/\1<=x.2.2/\x.2.2<=999 then(if before.any (cT x)then 7 else 0)else 1)
 else 1
def bG(x:It):Nat:=if x.1=1 then x.2.1.length else 1
def aR(f:List It):Nat:=(f.map bG).sum
def dK:List It->List It->Int
 | _,[]=>0
 | b,x :: r=>if bo b x≠0 then bo b x else dK (b++[x]) r
def bV(f:List It):Int:=if 512<f.length\/1024<aR f then 3 else dK [] f
theorem gr(f:List It)(x:It):aR (f++[x])=aR f+bG x:=by simp[aR]
def bi(a b:Nat):Nat->List It->List It
 | _,[]=>[]
 | at',x :: r=>
  (if x.1=1 then(if max a at' - at'<min b (at'+x.2.1.length)-at' then[(1,(x.2.1.take (min b (at'+x.2.1.length)-at')).drop (max a at' - at'),x.2.2)]else[])
   else(if a<=at'/\at'<b then[x]else[]))++bi a b (at'+bG x) r
theorem tV(a b:Nat)(f:List It)(x:It):∀at',bi a b at' (f++[x])=bi a b at' f++bi a b (at'+aR f) [x]:=by
 induction f with
 | nil=>intro at';simp[bi,aR]
 | cons y f ih=>
  intro at';rw[List.cons_append,bi,bi,ih];rw[show at'+aR (y :: f)=at'+bG y+aR f by simp[aR];omega];simp[List.append_assoc]
def df(s:List UInt8):Bool:=decide (s=[112]\/s=[104]\/s=[108,105]\/s=[116,100]\/s=[116,105,116,108,101])
def bZ(fmt:Int)(c:UInt8):List UInt8:=
 if fmt=1 then(if c.toNat=60 then[38,108,116,59]else if c.toNat=38 then[38,97,109,112,59]else if c.toNat=123 then[38,108,98,59]else[c])
 else if fmt=2 then(if c.toNat=10 then[92,110]else if c.toNat=9 then[92,116]else if c.toNat=13 then[92,114]else if c.toNat=92\/c.toNat=123 then[92,c]else[c])
 else(if c.toNat=34\/c.toNat=123 then[c,c]else[c])
def cF(fmt:Int)(x:It):List UInt8:=
 if x.1=1 then x.2.1.flatMap (bZ fmt)else if x.1=2 then[60]++x.2.1++[62]else if x.1=3 then[60,47]++x.2.1++[62]else if x.1=4 then[60]++x.2.1++[47,62]else if x.1=5 then[123]++x.2.1++[125]else[]
def bA(fmt:Int)(x:It):Bool:=bI x.1&&(decide (fmt≠1) || df (nameOf x.2.1))
def bj(fmt:Int)(f:List It):List UInt8 × Int:=
 if bV f≠0 then([],bV f)else if f.any (bA fmt)then([],7)else(f.flatMap (cF fmt),0)
theorem nX(fmt:Int)(c:UInt8):1<=(bZ fmt c).length/\(bZ fmt c).length<=5:=by
 unfold bZ
 repeat' split
 all_goals simp
end Go.Proofs.YthoemdibbldndaaGreatDoor.St
namespace Go.Proofs.YthoemdibbldndaaGreatDoor
def aP(f:List St.It):Nat:=(f.map λx=>x.2.1.length).sum
theorem ci(f:List St.It)(x:St.It):aP (f++[x])=aP f+x.2.1.length:=by simp[aP]
theorem gQ(f:List St.It)(x:St.It):aP (St.aV f x)<=aP f+x.2.1.length:=by
 rcases St.dD f with rfl|⟨a,b,rfl⟩
 ·rw[St.gv];repeat' split
  all_goals simp[aP]
 rw[St.dJ];repeat' split
 all_goals simp[aP]<;>omega
theorem iW(f:List St.It)(k:Nat)(h:k<f.length):aP (f.take (k+1))=aP (f.take k)+f[k].2.1.length:=by
 rw[List.take_add_one,List.getElem?_eq_getElem h];exact ci _ _
theorem fG(f:List St.It)(k:Nat):aP (f.take k)<=aP f:=by
 have:aP f=aP (f.take k)+aP (f.drop k):=by
  conv=>lhs;rw[<-List.take_append_drop k f]
  unfold aP;rw[List.map_append,List.sum_append]
 omega
theorem Hi(f:List St.It)(k:Nat)(h:k<f.length):St.bu (f.take (k+1))=St.aV (St.bu (f.take k)) f[k]:=by
 rw[List.take_add_one,List.getElem?_eq_getElem h];exact St.ew _ _
end Go.Proofs.YthoemdibbldndaaGreatDoor
namespace Go.Proofs.YthoemdibbldndaaGreatDoor.St
def stepT(op:List It)(c:Nat)(k:Int)(t:List UInt8):Option (Int × List It × Nat):=
 if k=3 then(match op.getLast? with|none=>none|some o=>if nameOf o.2.1=t then some (o.2.2,op.dropLast,c)else none)
 else if k=2 then some ((c:Int)+1,op++[(2,t,(c:Int)+1)],c+1)
 else if k=4 then some ((c:Int)+1,op,c+1)
 else some (0,op,c)
abbrev gM:=List It × List Nat × Nat × Int
def la(a d:Nat)(f:List It)(cuts:List Nat)(op:List It):gM:=if op=[]then(f,cuts++[d],0,0)else([],[],a,7)
def dv(E:List UInt8->El):Nat->List UInt8->Nat->Nat->List It->List Nat->List It->Nat->gM
 | 0,_,a,d,f,cuts,op,_=>la a d f cuts op
 | fuel+1,l,a,d,f,cuts,op,c=>
  if l=[]then la a d f cuts op else
  match E l with
  | none=>([],[],a,2)
  | some (k,t,n)=>
   if k=0 then dv E fuel (l.drop n) (a+n) d f cuts op c else
   match stepT op c k t with
   | none=>([],[],a,7)
   | some (i,eG,c')=>
    if 512<(aV f (k,t,i)).length\/1024<=cuts.length then([],[],a,3)else
    dv E fuel (l.drop n) (a+n) (a+n) (aV f (k,t,i)) (cuts++[d]) eG c'
section
variable {E:List UInt8->El} {l:List UInt8} {k:Int} {t:List UInt8} {n:Nat} {op eG:List It} {c c':Nat} {i:Int}
theorem nT(fuel a d:Nat)(f:List It)(cuts:List Nat):dv E fuel [] a d f cuts op c=la a d f cuts op:=by cases fuel<;>simp[dv]
theorem mC(fuel a d:Nat)(f:List It)(cuts:List Nat)(h0:l≠[])(h:E l=none):dv E (fuel+1) l a d f cuts op c=([],[],a,2):=by
 rw[dv,if_neg h0,h]
theorem rY(fuel a d:Nat)(f:List It)(cuts:List Nat)(h0:l≠[])(h:E l=some (0,t,n)):dv E (fuel+1) l a d f cuts op c=dv E fuel (l.drop n) (a+n) d f cuts op c:=by
 rw[dv,if_neg h0,h];simp only[if_true]
theorem qt(fuel a d:Nat)(f:List It)(cuts:List Nat)(h0:l≠[])(h:E l=some (k,t,n))(hk:k≠0)(hs:stepT op c k t=none):dv E (fuel+1) l a d f cuts op c=([],[],a,7):=by
 rw[dv,if_neg h0,h];simp only;rw[if_neg hk,hs]
theorem mB(fuel a d:Nat)(f:List It)(cuts:List Nat)(h0:l≠[])(h:E l=some (k,t,n))(hk:k≠0)(hs:stepT op c k t=some (i,eG,c'))(hf:512<(aV f (k,t,i)).length\/1024<=cuts.length):dv E (fuel+1) l a d f cuts op c=([],[],a,3):=by
 rw[dv,if_neg h0,h];simp only;rw[if_neg hk,hs];simp only;rw[if_pos hf]
theorem mD(fuel a d:Nat)(f:List It)(cuts:List Nat)(h0:l≠[])(h:E l=some (k,t,n))(hk:k≠0)(hs:stepT op c k t=some (i,eG,c'))(hf:¬(512<(aV f (k,t,i)).length\/1024<=cuts.length)) :
  dv E (fuel+1) l a d f cuts op c=dv E fuel (l.drop n) (a+n) (a+n) (aV f (k,t,i)) (cuts++[d]) eG c':=by
 rw[dv,if_neg h0,h];simp only;rw[if_neg hk,hs];simp only;rw[if_neg hf]
end
def ks(E:List UInt8->El)(l:List UInt8)(a d:Nat)(f:List It)(cuts:List Nat)(op:List It)(c:Nat):gM:=dv E l.length l a d f cuts op c
section
variable {E:List UInt8->El} {l:List UInt8} {k:Int} {t:List UInt8} {n:Nat} {op eG:List It} {c c':Nat} {i:Int}
end
theorem qq{E:List UInt8->El}(hE:∀l k t n,E l=some (k,t,n)->k=0\/k=1\/k=5):∀(fuel:Nat) (l:List UInt8) (a d:Nat) (f:List It) (cuts:List Nat) (c:Nat),dv E fuel l a d f cuts [] c=dec E fuel l a d f cuts
 | 0,l,a,d,f,cuts,c=>by simp[dv,dec,la]
 | fuel+1,l,a,d,f,cuts,c=>by
  by_cases h0:l=[]
  ·subst h0;rw[nT];simp[dec,la]
  cases hs:E l with
  | none=>rw[mC _ _ _ _ _ h0 hs];rw[dec,if_neg h0,hs]
  | some x=>
   obtain⟨k,t,n⟩:=x
   by_cases hk:k=0
   ·subst hk;rw[rY _ _ _ _ _ h0 hs,qq hE fuel];rw[dec,if_neg h0,hs];simp only[if_true]
   have ht:stepT [] c k t=some (0,[],c):=by
    have:=hE _ _ _ _ hs
    unfold stepT;rw[if_neg (by omega),if_neg (by omega),if_neg (by omega)]
   by_cases hf:512<(aV f (k,t,0)).length\/1024<=cuts.length
   ·rw[mB _ _ _ _ _ h0 hs hk ht hf];rw[dec,if_neg h0,hs];simp only;rw[if_neg hk,if_pos hf]
   rw[mD _ _ _ _ _ h0 hs hk ht hf,qq hE fuel];rw[dec,if_neg h0,hs];simp only;rw[if_neg hk,if_neg hf]
def Np(E:List UInt8->El)(b:List UInt8)(x:It):Prop:=b≠[]/\x.1≠0/\∀rest,E (b++rest)=some (x.1,x.2.1,b.length)
end Go.Proofs.YthoemdibbldndaaGreatDoor.St
namespace Go.Proofs.YthoemdibbldndaaGreatDoor.St
def cZ(l:List UInt8):List UInt8:=(l.drop 1).takeWhile (λc=>decide (c.toNat≠62))
def fY(t:List UInt8):Option (Int × List UInt8):=
 if t.head?=some 47 then(if aS (t.drop 1)then some (3,t.drop 1)else none)
 else if t.getLast?=some 47 then(if a7 t.dropLast then some (4,t.dropLast)else none)
 else if a7 t then some (2,t)else none
def fP(l:List UInt8):El:=if(cZ l).length+1<l.length then(fY (cZ l)).map λx=>(x.1,x.2,(cZ l).length+2)else none
def qX(l:List UInt8):El:=
 if([38,108,116,59]:List UInt8).isPrefixOf l then some (1,[60],4)
 else if([38,103,116,59]:List UInt8).isPrefixOf l then some (1,[62],4)
 else if([38,97,109,112,59]:List UInt8).isPrefixOf l then some (1,[38],5)
 else if([38,108,98,59]:List UInt8).isPrefixOf l then some (1,[123],4)
 else if([38,114,98,59]:List UInt8).isPrefixOf l then some (1,[125],4)else none
def sv(l:List UInt8):El:=match fP l with
 | none=>none
 | some (k,t,n)=>if df (nameOf t)then none else some (k,t,n)
def cE:List UInt8->El
 | []=>none
 | c :: r=>if c.toNat=60 then sv (c :: r)else if c.toNat=38 then qX (c :: r)else if c.toNat=123 then(cH (c :: r)).map λx=>(5,x.1,x.2)else some (1,[c],1)
theorem nA{c:UInt8}{r:List UInt8}(h:c.toNat=60):cE (c :: r)=sv (c :: r):=by rw[cE,if_pos h]
theorem nz{c:UInt8}{r:List UInt8}(h:c.toNat=38):cE (c :: r)=qX (c :: r):=by rw[cE,if_neg (by omega),if_pos h]
theorem l8{c:UInt8}{r:List UInt8}(h:c.toNat=123):cE (c :: r)=(cH (c :: r)).map λx=>(5,x.1,x.2):=by rw[cE,if_neg (by omega),if_neg (by omega),if_pos h]
theorem kQ{c:UInt8}{r:List UInt8}(h:c.toNat≠60)(h2:c.toNat≠38)(h3:c.toNat≠123):cE (c :: r)=some (1,[c],1):=by rw[cE,if_neg h,if_neg h2,if_neg h3]
theorem Ii{t:List UInt8}{k:Int}{u:List UInt8}(h:fY t=some (k,u)):(k=2\/k=3\/k=4)/\u.length<=t.length:=by
 unfold fY at h
 split at h
 ·split at h
  ·simp only[Option.some.injEq,Prod.mk.injEq]at h;obtain⟨rfl,rfl⟩:=h;exact⟨by omega,by simp⟩
  cases h
 split at h
 ·split at h
  ·simp only[Option.some.injEq,Prod.mk.injEq]at h;obtain⟨rfl,rfl⟩:=h;exact⟨by omega,by simp⟩
  cases h
 split at h
 ·simp only[Option.some.injEq,Prod.mk.injEq]at h;obtain⟨rfl,rfl⟩:=h;exact⟨by omega,by omega⟩
 cases h
theorem j3{l:List UInt8}{k:Int}{t:List UInt8}{n:Nat}(h:fP l=some (k,t,n)):(k=2\/k=3\/k=4)/\2<=n/\n<=l.length/\t.length+2<=n:=by
 unfold fP at h
 split at h
 ·cases hq:fY (cZ l)with
  | none=>rw[hq]at h;cases h
  | some x=>
   obtain⟨k',u⟩:=x;rw[hq]at h;simp only[Option.map_some,Option.some.injEq,Prod.mk.injEq]at h;obtain⟨rfl,rfl,rfl⟩:=h;have:=Ii hq
   exact⟨this.1,by omega,by omega,by omega⟩
 cases h
theorem xf{l:List UInt8}{k:Int}{t:List UInt8}{n:Nat}(h:qX l=some (k,t,n)):k=1/\1<=n/\n<=l.length/\t.length=1:=by
 unfold qX at h
 split at h
 ·rename_i hp
  simp only[Option.some.injEq,Prod.mk.injEq]at h;obtain⟨rfl,rfl,rfl⟩:=h;have:=(List.isPrefixOf_iff_prefix.1 hp).length_le
  exact⟨rfl,by omega,by simpa using this,rfl⟩
 split at h
 ·rename_i hp
  simp only[Option.some.injEq,Prod.mk.injEq]at h;obtain⟨rfl,rfl,rfl⟩:=h;have:=(List.isPrefixOf_iff_prefix.1 hp).length_le
  exact⟨rfl,by omega,by simpa using this,rfl⟩
 split at h
 ·rename_i hp
  simp only[Option.some.injEq,Prod.mk.injEq]at h;obtain⟨rfl,rfl,rfl⟩:=h;have:=(List.isPrefixOf_iff_prefix.1 hp).length_le
  exact⟨rfl,by omega,by simpa using this,rfl⟩
 split at h
 ·rename_i hp
  simp only[Option.some.injEq,Prod.mk.injEq]at h;obtain⟨rfl,rfl,rfl⟩:=h;have:=(List.isPrefixOf_iff_prefix.1 hp).length_le
  exact⟨rfl,by omega,by simpa using this,rfl⟩
 split at h
 ·rename_i hp
  simp only[Option.some.injEq,Prod.mk.injEq]at h;obtain⟨rfl,rfl,rfl⟩:=h;have:=(List.isPrefixOf_iff_prefix.1 hp).length_le
  exact⟨rfl,by omega,by simpa using this,rfl⟩
 cases h
theorem B0{l:List UInt8}{x:List UInt8 × Nat}(h:cH l=some x):2<=x.2/\x.2<=l.length/\x.1.length+2=x.2/\aS x.1=true:=by
 unfold cH at h;simp only[]at h
 split at h
 ·rename_i hq
  rw[Bool.and_eq_true,decide_eq_true_eq]at hq;simp only[Option.some.injEq]at h;subst h;exact⟨by simp,by simp only;omega,rfl,hq.2⟩
 cases h
theorem oq{l:List UInt8}{k:Int}{t:List UInt8}{n:Nat}(h:cE l=some (k,t,n)):(k=1\/k=2\/k=3\/k=4\/k=5)/\1<=n/\n<=l.length/\t.length<=n:=by
 match l,h with
 | c :: r,h=>
  by_cases nZ:c.toNat=60
  ·rw[nA nZ]at h;unfold sv at h;cases hq:fP (c :: r)with
   | none=>rw[hq]at h;cases h
   | some x=>
    obtain⟨k',t',n'⟩:=x;rw[hq]at h;simp only at h
    split at h
    ·cases h
    simp only[Option.some.injEq,Prod.mk.injEq]at h;obtain⟨rfl,rfl,rfl⟩:=h;have:=j3 hq
    exact⟨by omega,by omega,this.2.2.1,by omega⟩
  by_cases vx:c.toNat=38
  ·rw[nz vx]at h;have:=xf h
   exact⟨by omega,by omega,this.2.2.1,by omega⟩
  by_cases eE:c.toNat=123
  ·rw[l8 eE]at h;cases hq:cH (c :: r)with
   | none=>rw[hq]at h;cases h
   | some x=>
    rw[hq]at h;simp only[Option.map_some,Option.some.injEq,Prod.mk.injEq]at h;obtain⟨rfl,rfl,rfl⟩:=h;have:=B0 hq
    exact⟨by omega,by omega,this.2.1,by omega⟩
  rw[kQ nZ vx eE]at h;simp only[Option.some.injEq,Prod.mk.injEq]at h;obtain⟨rfl,rfl,rfl⟩:=h;exact⟨by omega,by omega,by simp,by simp⟩
theorem Di{t:List UInt8}(h:aS t=true):∀c∈t,c.toNat≠62/\c.toNat≠60/\c.toNat≠125/\c.toNat≠32/\c.toNat≠47:=by
 cases t with
 | nil=>intro c hc;cases hc
 | cons d r=>
  rw[aS]at h;simp only[Bool.and_eq_true,decide_eq_true_eq,lZ]at h;obtain⟨_,h1,h2⟩:=h;intro c hc;rcases List.mem_cons.1 hc with rfl|hc
  ·omega
  have:=List.all_eq_true.1 h2 c hc
  simp only[fC,decide_eq_true_eq]at this;omega
theorem Jv{t rest:List UInt8}(h:∀c∈t,c.toNat≠62):cZ ([60]++t++[62]++rest)=t:=by
 unfold cZ;have e:([60]++t++[62]++rest).drop 1=t++(62 :: rest):=by simp
 rw[e,List.takeWhile_append_of_pos (λc hc=>decide_eq_true (h c hc)),List.takeWhile_cons_of_neg (by simp)];simp
theorem OS{t rest:List UInt8}{k:Int}{u:List UInt8}(h:∀c∈t,c.toNat≠62)(hi:fY t=some (k,u)):fP ([60]++t++[62]++rest)=some (k,u,t.length+2):=by
 unfold fP;rw[Jv h,if_pos (by simp),hi];rfl
theorem D0{t:List UInt8}(h:a7 t=true):t≠[]/\t.head?≠some 47/\t.getLast?≠some 47/\aS (nameOf t)=true:=by
 unfold a7 at h;simp only[Bool.and_eq_true]at h;obtain⟨_,_,hn,_,hl⟩:=h;refine⟨?_,?_,by simpa using hl,hn⟩
 ·intro e;subst e;simp[nameOf,aS]at hn
 intro e;cases t with
 | nil=>cases e
 | cons c r=>
  simp at e;subst e;have:nameOf (47 :: r)=47 :: nameOf r:=by unfold nameOf;rw[List.takeWhile_cons_of_pos (by decide)]
  rw[this,aS]at hn;simp[lZ]at hn
theorem Cr{t:List UInt8}(h:aS t=true):nameOf t=t:=by
 unfold nameOf;have:=List.takeWhile_append_of_pos (p:=λc:UInt8=>decide (c.toNat≠32)) (l₁:=t) (l₂:=[]) (λc hc=>decide_eq_true ((Di h c hc).2.2.2.1))
 simpa using this
theorem Ox{t rest:List UInt8}{k:Int}{u:List UInt8}(h:∀c∈t,c.toNat≠62)(hi:fY t=some (k,u))(hb:df (nameOf u)=false):cE ([60]++t++[62]++rest)=some (k,u,t.length+2):=by
 have e:([60]++t++[62]++rest:List UInt8)=60 :: (t++[62]++rest):=by simp
 have:=OS (rest:=rest) h hi
 rw[e]at this;rw[e,nA (by rfl),sv,this];simp only[hb,Bool.false_eq_true,if_false]
theorem Fg{t rest:List UInt8}(h:aS t=true):cH ([123]++t++[125]++rest)=some (t,t.length+2):=by
 unfold cH;have e:([123]++t++[125]++rest).drop 1=t++(125 :: rest):=by simp
 have e2:(t++(125 :: rest)).takeWhile (λc=>decide (c.toNat≠125))=t:=by
  rw[List.takeWhile_append_of_pos (λc hc=>decide_eq_true ((Di h c hc).2.2.1)),List.takeWhile_cons_of_neg (by simp)];simp
 simp only[e,e2];rw[decide_eq_true (by simp),h];rfl
end Go.Proofs.YthoemdibbldndaaGreatDoor.St
namespace Go.Proofs.YthoemdibbldndaaGreatDoor.St
def dT(l:List Int)(x:It):List Int:=if bI x.1=true/\x.2.2 ∉ l then l++[x.2.2]else l
def jK(f:List It):List Int:=f.foldl dT []
def ea(l:List Int)(x:It):It:=if bI x.1 then(x.1,x.2.1,(l.idxOf x.2.2:Int)+1)else x
def lA(f:List It):List It:=bu (f.map (ea (jK f)))
def nf(c:Nat):List Int:=(List.range c).map λ(i:Nat)=>(i:Int)+1
theorem Mh(c:Nat):nf (c+1)=nf c++[(c:Int)+1]:=by unfold nf;rw[List.range_succ,List.map_append];rfl
theorem nC(c:Nat):(nf c).length=c:=by simp[nf]
end Go.Proofs.YthoemdibbldndaaGreatDoor.St
namespace Go.Proofs.YthoemdibbldndaaGreatDoor.St
theorem oo(f:List It)(x:It):aR (aV f x)=aR f+bG x:=by
 rcases dD f with rfl|⟨a,b,rfl⟩
 ·rw[gv];unfold bG
  split
  ·rename_i h
   split
   ·rename_i h2;simp[aR,h2]
   simp[aR,bG]
  rename_i h;simp[aR,bG,h]
 rw[dJ]
 split
 ·rename_i h
  split
  ·rename_i h2
   have:bG x=0:=by unfold bG;rw[if_pos h,h2];rfl
   omega
  split
  ·rename_i h3
   rw[gr,gr];unfold bG;rw[if_pos rfl,if_pos h3,if_pos h];simp only[List.length_append];omega
  rw[gr,gr];congr 1;unfold bG;rw[if_pos rfl,if_pos h]
 rw[gr]
structure uX (L:Nat) (R:gM):Prop where
 nm:Nm R.1
 len:R.1.length<=512
 cl:R.2.1.length=aR R.1+1
 le:aR R.1<=1024
 aP:aP R.1<=L
 mono:R.2.1.Pairwise (·<=·)
 top:∀c∈R.2.1,c<=L
def rE(E:List UInt8->El):Prop:=∀l k t n,E l=some (k,t,n)->1<=n/\n<=l.length/\t.length<=n/\(k=1->t.length=1)
theorem Gm{L:Nat}{l:List UInt8}{a d:Nat}{f:List It}{cuts:List Nat}{op:List It}(h1:Nm f)(h2:f.length<=512)(h3:cuts.length=aR f)(h4:cuts.length<=1024)(h5:(cuts++[d]).Pairwise (·<=·))(h6:d<=a)(h7:a+l.length<=L)(h8:aP f<=a)(he:(la a d f cuts op).2.2.2=0):uX L (la a d f cuts op):=by
 unfold la at he |-
 split at he
 ·rename_i h
  rw[if_pos h];refine⟨h1,h2,by simp[h3],by simp only;omega,by simp only;omega,h5,λc hc=>?_⟩;rcases List.mem_append.1 hc with hc|hc
  ·have:=(List.pairwise_append.1 h5).2.2 c hc d (by simp);omega
  simp at hc;omega
 cases he
theorem td{E:List UInt8->El}(hE:rE E){L:Nat}:∀(fuel:Nat) (l:List UInt8) (a d:Nat) (f:List It) (cuts:List Nat) (op:List It) (c:Nat),Nm f->f.length<=512->cuts.length=aR f->cuts.length<=1024->(cuts++[d]).Pairwise (·<=·)->d<=a->a+l.length<=L->aP f<=a ->
  (dv E fuel l a d f cuts op c).2.2.2=0->uX L (dv E fuel l a d f cuts op c)
 | 0,l,a,d,f,cuts,op,c,h1,h2,h3,h4,h5,h6,h7,h8,he=>by
  unfold dv at he |-;exact Gm h1 h2 h3 h4 h5 h6 h7 h8 he
 | fuel+1,l,a,d,f,cuts,op,c,h1,h2,h3,h4,h5,h6,h7,h8,he=>by
  by_cases h0:l=[]
  ·subst h0;rw[nT]at he |-;exact Gm h1 h2 h3 h4 h5 h6 h7 h8 he
  cases hq:E l with
  | none=>rw[mC _ _ _ _ _ h0 hq]at he;cases he
  | some x=>
   obtain⟨k,t,n⟩:=x;obtain⟨e1,e2,e3,e4⟩:=hE _ _ _ _ hq;have iX:(l.drop n).length=l.length-n:=List.length_drop
   by_cases hk:k=0
   ·subst hk;rw[rY _ _ _ _ _ h0 hq]at he |-;exact td hE fuel _ _ _ _ _ _ _ h1 h2 h3 h4 h5 (by omega) (by omega) (by omega) he
   cases hs:stepT op c k t with
   | none=>rw[qt _ _ _ _ _ h0 hq hk hs]at he;cases he
   | some y=>
    obtain⟨i,eG,c'⟩:=y
    by_cases hf:512<(aV f (k,t,i)).length\/1024<=cuts.length
    ·rw[mB _ _ _ _ _ h0 hq hk hs hf]at he;cases he
    rw[mD _ _ _ _ _ h0 hq hk hs hf]at he |-
    have hw:bG (k,t,i)=1:=by
     unfold bG
     split
     ·rename_i hk1;exact e4 hk1
     rfl
    have Bb:=gQ f (k,t,i);refine td hE fuel _ _ _ _ _ _ _ (gC h1 _) (by omega) ?_ (by simp;omega) ?_ (by omega) (by omega) ?_ he
    ·rw[List.length_append,List.length_singleton,oo,hw,h3]
    ·rw[List.pairwise_append];refine⟨h5,by simp,λx hx y hy=>?_⟩;simp at hy;subst hy;rcases List.mem_append.1 hx with hx|hx
     ·have:=(List.pairwise_append.1 h5).2.2 x hx d (by simp);omega
     simp at hx;omega
    simp only at Bb;omega
def bp(ps:List Pt):List UInt8:=ps.flatMap (·.2.2)
def eZ(S:List UInt8->List Pt × Nat × Int)(ps:List Pt):Int:=if(S (bp ps)).2.2=0/\(S (bp ps)).1=ps then 0 else 11
def io(ps:List Pt)(k:Int):Pt:=if 0<=k then(ps[k.toNat]?).getD (false,[],[])else(false,[],[])
def bL(D:List UInt8->gM)(ps:List Pt)(k:Int):gM:=if(io ps k).1=true then D (io ps k).2.2 else([],[],0,6)
def dM(n:Nat):Int->List (Int × Int)->Bool
 | _,[]=>true
 | at',r :: rs=>if r.1<at'\/r.2<r.1\/(n:Int)<r.2 then false else dM n r.2 rs
def mL(E:List It->List UInt8 × Int)(au:List UInt8)(cuts:List Nat):Nat->List UInt8->List (Int × Int)->List (List It)->Except Int (List UInt8 × Nat)
 | at',s,r :: rs,t :: ts=>if(E t).2≠0 then .error (E t).2 else mL E au cuts (cuts.getD r.2.toNat 0) (s++((au.take (cuts.getD r.1.toNat 0)).drop at'++(E t).1)) rs ts
 | at',s,_,_=>.ok (s,at')
def mr(f:List It):Nat->List It->List (Int × Int)->List (List It)->List It × Nat
 | at',out,r :: rs,t :: ts=>mr f r.2.toNat (bu (bu (out++bi at' r.1.toNat 0 f)++t)) rs ts
 | at',out,_,_=>(out,at')
def kt(f:List It)(rs:List (Int × Int))(ts:List (List It)):List It:=
 bu ((mr f 0 [] rs ts).1++bi (mr f 0 [] rs ts).2 (aR f) 0 f)
def dj(ps:List Pt)(k:Nat)(s:List UInt8):List Pt:=ps.modify k λp=>(p.1,p.2.1,s)
def zv(D:List UInt8->gM)(fmt:Int)(ps:List Pt)(k:Nat)(want:List It)(s:List UInt8):(Int × List Pt) × Int:=
 if(D s).2.2.2≠0 then((0,[]),(D s).2.2.2)else if(D s).1≠want then((0,[]),11)
 else if 65536<(bp (dj ps k s)).length then((0,[]),3)else((fmt,dj ps k s),0)
def eH(D:List UInt8->gM)(S:List UInt8->List Pt × Nat × Int)(E:List It->List UInt8 × Int)(fmt:Int)(ps:List Pt)(k:Int)(rs:List (Int × Int))(ts:List (List It)):(Int × List Pt) × Int:=
 if eZ S ps≠0 then((0,[]),eZ S ps)else if(bL D ps k).2.2.2≠0 then((0,[]),(bL D ps k).2.2.2)
 else if ts.length≠rs.length\/dM (aR (bL D ps k).1) 0 rs=false then((0,[]),1)
 else match mL E (io ps k).2.2 (bL D ps k).2.1 0 [] rs ts with
  | .error e=>((0,[]),e)
  | .ok (s,at')=>zv D fmt ps k.toNat (lA (kt (bL D ps k).1 rs ts)) (s++(io ps k).2.2.drop at')
end Go.Proofs.YthoemdibbldndaaGreatDoor.St
