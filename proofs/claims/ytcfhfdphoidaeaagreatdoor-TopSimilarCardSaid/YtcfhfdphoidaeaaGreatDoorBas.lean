/- Plain: names, and small facts on bytes of strings. -/
set_option linter.unusedVariables false
set_option linter.unusedSimpArgs false
namespace Go.Proofs.YtcfhfdphoidaeaaGreatDoor.St
def lowC(c:UInt8):Bool:=decide (97<=c.toNat/\c.toNat<=122)
def nameC(c:UInt8):Bool:=decide ((97<=c.toNat/\c.toNat<=122)∨(48<=c.toNat/\c.toNat<=57)∨c.toNat=45)
def isNameL:List UInt8->Bool
 | []=>false
 | c :: r=>decide (r.length<=23) && (lowC c && r.all nameC)
theorem drop_at(s:ByteArray)(k:Nat)(h:k<s.size):s.data.toList.drop k=s[k] :: s.data.toList.drop (k+1):=by
 rw[List.drop_eq_getElem_cons (by simpa using h)];rfl
theorem list_zero(s:ByteArray)(h:0<s.size):s.data.toList=s[0] :: s.data.toList.drop 1:=by
 have:=drop_at s 0 h;simpa using this
theorem len_list(s:ByteArray):s.data.toList.length=s.size:=by simp
theorem drop_all(s:ByteArray)(k:Nat)(h:s.size<=k):s.data.toList.drop k=[]:=List.drop_of_length_le (by simpa using h)
theorem name_empty(s:ByteArray)(h:s.size=0):isNameL s.data.toList=false:=by
 have:s.data.toList=[]:=List.eq_nil_of_length_eq_zero (by simpa using h)
 rw[this];rfl
theorem name_long(s:ByteArray)(h:24<s.size):isNameL s.data.toList=false:=by
 rw[list_zero s (by omega),isNameL];have:¬ (s.data.toList.drop 1).length<=23:=by simp;omega
 rw[decide_eq_false this];rfl
theorem name_head(s:ByteArray)(h:0<s.size)(hc:lowC s[0]=false):isNameL s.data.toList=false:=by
 rw[list_zero s h,isNameL,hc];simp
theorem name_rest(s:ByteArray)(h:0<s.size)(h24:s.size<=24)(hc:lowC s[0]=true):isNameL s.data.toList=(s.data.toList.drop 1).all nameC:=by
 have e:decide ((s.data.toList.drop 1).length<=23)=true:=decide_eq_true (by simp;omega);rw[list_zero s h]
 show (decide ((s.data.toList.drop 1).length<=23) && (lowC s[0] && (s.data.toList.drop 1).all nameC))=_
 rw[e,hc];simp
theorem all_step(s:ByteArray)(k:Nat)(h:k<s.size):(s.data.toList.drop k).all nameC=(nameC s[k] && (s.data.toList.drop (k+1)).all nameC):=by
 rw[drop_at s k h,List.all_cons]
theorem pre_take:∀ (m l:List UInt8),(l.take m.length==m)=m.isPrefixOf l
 | [],l=>by simp
 | c :: m,[]=>by simp[List.isPrefixOf]
 | c :: m,d :: l=>by
  rw[List.length_cons,List.take_succ_cons,List.isPrefixOf,<- pre_take m l];have e:(d==c)=(c==d):=by rw[Bool.eq_iff_iff,beq_iff_eq,beq_iff_eq];exact eq_comm
  show (d==c && (l.take m.length==m))=(c==d && (l.take m.length==m))
  rw[e]
theorem pre_long(m l:List UInt8)(h:l.length<m.length):m.isPrefixOf l=false:=by
 rw[<- pre_take,beq_eq_false_iff_ne];intro e;have:=congrArg List.length e
 simp at this;omega
def slotL(l:List UInt8):Option (List UInt8 × Nat):=
 let n:=(l.drop 1).takeWhile (fun c=>decide (c.toNat ≠ 125))
 if decide (n.length+1<l.length) && isNameL n then some (n,n.length+2) else none
end Go.Proofs.YtcfhfdphoidaeaaGreatDoor.St
namespace Go.Proofs.YtcfhfdphoidaeaaGreatDoor.St
abbrev It:=Int × List UInt8 × Int
def addI(f:List It)(x:It):List It:=
 if x.1=1 then
  if x.2.1=[] then f else
  match f.getLast? with
  | some y=>if y.1=1 then f.dropLast++[(1,y.2.1++x.2.1,0)] else f++[(1,x.2.1,0)]
  | none=>f++[(1,x.2.1,0)]
 else f++[x]
def normL(f:List It):List It:=f.foldl addI []
theorem addI_nil(x:It):addI [] x=if x.1=1 then if x.2.1=[] then [] else [(1,x.2.1,0)] else [x]:=by
 unfold addI;split
 ·rfl
 ·rfl
theorem addI_snoc(f:List It)(y x:It):addI (f++[y]) x=if x.1=1 then if x.2.1=[] then f++[y] else if y.1=1 then f++[(1,y.2.1++x.2.1,0)] else f++[y]++[(1,x.2.1,0)] else f++[y]++[x]:=by
 unfold addI;simp only[List.getLast?_append,List.getLast?_singleton,Option.some_or,List.dropLast_concat]
theorem normL_snoc(f:List It)(x:It):normL (f++[x])=addI (normL f) x:=by unfold normL;rw[List.foldl_append];rfl
theorem snoc_cases{α:Type}(l:List α):l=[]∨∃ a b,l=a++[b]:=by
 rcases List.eq_nil_or_concat l with h|⟨a,b,h⟩
 ·exact .inl h
 ·exact .inr ⟨a,b,by simpa using h⟩
theorem addI_len(f:List It)(x:It):(addI f x).length<=f.length+1/\f.length<=(addI f x).length:=by
 rcases snoc_cases f with rfl|⟨a,b,rfl⟩
 ·rw[addI_nil];repeat' split
  all_goals simp
 ·rw[addI_snoc];repeat' split
  all_goals simp
theorem normL_len_n:∀ (n:Nat) (f:List It),f.length=n->(normL f).length<=n
 | 0,f,h=>by rw[List.eq_nil_of_length_eq_zero h];simp[normL]
 | n+1,f,h=>by
  rcases snoc_cases f with rfl|⟨a,b,rfl⟩
  ·simp at h
  ·rw[normL_snoc]
   have h1:=(addI_len (normL a) b).1;have h2:=normL_len_n n a (by simpa using h);omega
theorem normL_len(f:List It):(normL f).length<=f.length:=normL_len_n _ f rfl
def Nm(f:List It):Prop:=normL f=f
theorem nm_nil:Nm []:=rfl
theorem nm_left{f:List It}{y:It}(h:Nm (f++[y])):Nm f/\(y.1=1->y.2.1 ≠ []/\y.2.2=0/\∀ z,f.getLast?=some z->z.1 ≠ 1):=by
 unfold Nm at h;rw[normL_snoc] at h;have hl:=normL_len f;rcases snoc_cases (normL f) with h0|⟨a,b,h0⟩
 ·rw[h0,addI_nil] at h
  by_cases h1:y.1=1
  ·rw[if_pos h1] at h
   by_cases h2:y.2.1=[]
   ·rw[if_pos h2] at h;simp at h
   ·rw[if_neg h2] at h
    have:f=[]:=by
     have h3:=congrArg List.length h;simp at h3;exact h3
    subst this;simp only[List.nil_append,List.cons.injEq,and_true] at h;exact⟨rfl,fun _=>⟨h2,by rw[<- h],fun z hz=>by simp at hz⟩⟩
  ·rw[if_neg h1] at h
   have:f=[]:=by
    have h3:=congrArg List.length h;simp at h3;exact h3
   subst this;exact⟨rfl,fun h2=>absurd h2 h1⟩
 ·rw[h0,addI_snoc] at h
  rw[h0] at hl;simp at hl
  by_cases h1:y.1=1
  ·rw[if_pos h1] at h
   by_cases h2:y.2.1=[]
   ·rw[if_pos h2] at h
    have h3:=congrArg List.length h;simp at h3;omega
   ·rw[if_neg h2] at h
    by_cases h4:b.1=1
    ·rw[if_pos h4] at h
     have h3:=congrArg List.length h;simp at h3;omega
    ·rw[if_neg h4] at h
     have h5:=List.append_inj' h rfl;have h6:f=a++[b]:=h5.1.symm;simp only[List.cons.injEq,and_true] at h5;refine⟨by unfold Nm;rw[h0,h6],fun _=>⟨h2,by rw[<- h5.2],fun z hz=>?_⟩⟩;rw[h6] at hz;simp at hz;rw[<- hz];exact h4
  ·rw[if_neg h1] at h
   have h5:=List.append_inj' h rfl;exact⟨by unfold Nm;rw[h0,h5.1],fun h2=>absurd h2 h1⟩
theorem nm_add{f:List It}(h:Nm f)(x:It):Nm (addI f x):=by
 have hn:=h;unfold Nm at h;rcases snoc_cases f with rfl|⟨a,b,rfl⟩
 ·rw[addI_nil]
  by_cases h1:x.1=1
  ·rw[if_pos h1]
   by_cases h2:x.2.1=[]
   ·rw[if_pos h2];rfl
   ·rw[if_neg h2];unfold Nm normL;simp[addI,h2]
  ·rw[if_neg h1];unfold Nm normL;simp[addI,h1]
 ·rw[addI_snoc]
  by_cases h1:x.1=1
  ·rw[if_pos h1]
   by_cases h2:x.2.1=[]
   ·rw[if_pos h2];exact hn
   ·rw[if_neg h2]
    by_cases h4:b.1=1
    ·rw[if_pos h4]
     obtain⟨ha,hb⟩:=nm_left hn;obtain⟨hb1,_,hb3⟩:=hb h4;unfold Nm at ha ⊢;rw[normL_snoc,ha];rcases snoc_cases a with rfl|⟨a',b',rfl⟩
     ·rw[addI_nil];simp[hb1]
     ·rw[addI_snoc]
      have:=hb3 b' (by simp)
      simp[this,hb1]
    ·rw[if_neg h4];unfold Nm;rw[normL_snoc,h,addI_snoc];simp[h4,h2]
  ·rw[if_neg h1];unfold Nm;rw[normL_snoc,h,addI_snoc];simp[h1]
abbrev El:=Option (Int × List UInt8 × Nat)
def txt(t:List UInt8):List It:=if t=[] then [] else [(1,t,0)]
def NoTxt(f:List It):Prop:=∀ z,f.getLast?=some z->z.1 ≠ 1
theorem add_byte{f:List It}{t:List UInt8}(h:NoTxt f)(c:UInt8):addI (f++txt t) (1,[c],0)=f++txt (t++[c]):=by
 unfold txt
 by_cases ht:t=[]
 ·subst ht
  simp only[if_true,List.append_nil,List.nil_append];rw[if_neg (by simp)];rcases snoc_cases f with rfl|⟨a,b,rfl⟩
  ·rw[addI_nil];rfl
  ·rw[addI_snoc]
   have:=h b (by simp)
   simp[this]
 ·rw[if_neg ht,if_neg (by simp),addI_snoc];simp
theorem add_item{f:List It}(k:Int)(t:List UInt8)(h:k ≠ 1):addI f (k,t,0)=f++[(k,t,0)]:=by unfold addI;rw[if_neg h]
theorem noTxt_snoc(f:List It)(k:Int)(t:List UInt8)(i:Int)(h:k ≠ 1):NoTxt (f++[(k,t,i)]):=by
 intro z hz;simp at hz;rw[<- hz];exact h
theorem noTxt_nil:NoTxt []:=by intro z hz;simp at hz
theorem txt_len(t:List UInt8):(txt t).length=if t=[] then 0 else 1:=by unfold txt;split <;> simp
def fullB(ni nt nc:Nat)(text:Bool):Bool:=decide (512<ni+(if 0<nt then 1 else 0)+(if text=false∨nt=0 then 1 else 0)∨1024<nc+1)
theorem full_byte{f:List It}{t:List UInt8}(h:NoTxt f)(c:UInt8)(nc:Nat):(512<(addI (f++txt t) (1,[c],0)).length∨1024<=nc) ↔ fullB f.length t.length nc true=true:=by
 rw[add_byte h,List.length_append,txt_len,if_neg (by simp)];unfold fullB;rw[decide_eq_true_iff];rcases Nat.eq_zero_or_pos t.length with h0|h0
 ·rw[if_neg (by omega),if_pos (by simp[h0])];omega
 ·rw[if_pos h0,if_neg (by simp;intro e;simp[e] at h0)];omega
theorem full_item{f:List It}{t:List UInt8}(k:Int)(s:List UInt8)(nc:Nat)(hk:k ≠ 1):(512<(addI (f++txt t) (k,s,0)).length∨1024<=nc) ↔ fullB f.length t.length nc false=true:=by
 rw[add_item _ _ hk,List.length_append,List.length_append,txt_len];unfold fullB;rw[decide_eq_true_iff];rcases Nat.eq_zero_or_pos t.length with h0|h0
 ·rw[if_pos (List.eq_nil_of_length_eq_zero h0),if_neg (by omega),if_pos (by simp)];simp;omega
 ·rw[if_neg (by intro e;simp[e] at h0),if_pos h0,if_pos (by simp)];simp;omega
end Go.Proofs.YtcfhfdphoidaeaaGreatDoor.St
namespace Go.Proofs.YtcfhfdphoidaeaaGreatDoor.St
abbrev Pt:=Bool × List UInt8 × List UInt8
def cutL(d:List UInt8)(a b:Nat):List UInt8:=(d.take b).drop a
abbrev PS:=List Pt × Nat
def unitS(d:List UInt8)(s:PS)(a b:Nat)(key:List UInt8):PS:=(s.1++[(false,[],cutL d s.2 a),(true,key,cutL d a b)],b)
def endS(d:List UInt8)(s:PS):List Pt:=s.1++[(false,[],d.drop s.2)]
end Go.Proofs.YtcfhfdphoidaeaaGreatDoor.St
namespace Go.Proofs.YtcfhfdphoidaeaaGreatDoor.St
def posI(f:List It):List It:=f.flatMap fun x=>if x.1=1 then x.2.1.map (fun c=>((1:Int),[c],(0:Int))) else [x]
end Go.Proofs.YtcfhfdphoidaeaaGreatDoor.St
namespace Go.Proofs.YtcfhfdphoidaeaaGreatDoor.St
def nameOf(s:List UInt8):List UInt8:=s.takeWhile (fun c=>decide (c.toNat ≠ 32))
def contentC(c:UInt8):Bool:=decide (32<=c.toNat/\c.toNat<=126/\c.toNat ≠ 60/\c.toNat ≠ 62/\c.toNat ≠ 123/\c.toNat ≠ 125)
def isContentL(s:List UInt8):Bool:=
 decide (s.length<=64) && (s.all contentC && (isNameL (nameOf s) && ((decide ((nameOf s).length=s.length) || decide ((nameOf s).length+1<s.length)) && (s.getLast? != some 47))))
def isTagK(k:Int):Bool:=decide (k=2∨k=3∨k=4)
def clash(x y:It):Bool:=isTagK y.1 && (decide (y.2.2=x.2.2) && (decide (x.1 ≠ 3) || (decide (y.1 ≠ 2) || decide (nameOf y.2.1 ≠ x.2.1))))
def checkL(before:List It)(x:It):Int:=
 if x.1=1 then (if x.2.1=[]∨x.2.2 ≠ 0∨(∃ y,before.getLast?=some y/\y.1=1) then 1 else 0)
 else if x.1=5 then (if isNameL x.2.1=true/\x.2.2=0 then 0 else 1)
 else if x.1=2∨x.1=4 then (if isContentL x.2.1=true/\1<=x.2.2/\x.2.2<=999 then (if before.any (clash x) then 7 else 0) else 1)
 else if x.1=3 then (if isNameL x.2.1=true/\1<=x.2.2/\x.2.2<=999 then (if before.any (clash x) then 7 else 0) else 1)
 else 1
def widthI(x:It):Nat:=if x.1=1 then x.2.1.length else 1
def lenL(f:List It):Nat:=(f.map widthI).sum
def validFrom:List It->List It->Int
 | _,[]=>0
 | b,x :: r=>if checkL b x ≠ 0 then checkL b x else validFrom (b++[x]) r
def validL(f:List It):Int:=if 512<f.length∨1024<lenL f then 3 else validFrom [] f
theorem lenL_snoc(f:List It)(x:It):lenL (f++[x])=lenL f+widthI x:=by simp[lenL]
def sliceL(a b:Nat):Nat->List It->List It
 | _,[]=>[]
 | at',x :: r=>
  (if x.1=1 then (if max a at' - at'<min b (at'+x.2.1.length)-at' then [(1,(x.2.1.take (min b (at'+x.2.1.length)-at')).drop (max a at' - at'),x.2.2)] else [])
   else (if a<=at'/\at'<b then [x] else []))++sliceL a b (at'+widthI x) r
theorem sliceL_snoc(a b:Nat)(f:List It)(x:It):∀ at',sliceL a b at' (f++[x])=sliceL a b at' f++sliceL a b (at'+lenL f) [x]:=by
 induction f with
 | nil=>intro at';simp[sliceL,lenL]
 | cons y f ih=>
  intro at';rw[List.cons_append,sliceL,sliceL,ih];rw[show at'+lenL (y :: f)=at'+widthI y+lenL f by simp[lenL];omega];simp[List.append_assoc]
def blockL(s:List UInt8):Bool:=decide (s=[112]∨s=[104]∨s=[108,105]∨s=[116,100]∨s=[116,105,116,108,101])
def encB(fmt:Int)(c:UInt8):List UInt8:=
 if fmt=1 then (if c.toNat=60 then [38,108,116,59] else if c.toNat=38 then [38,97,109,112,59] else if c.toNat=123 then [38,108,98,59] else [c])
 else if fmt=2 then (if c.toNat=10 then [92,110] else if c.toNat=9 then [92,116] else if c.toNat=13 then [92,114] else if c.toNat=92∨c.toNat=123 then [92,c] else [c])
 else (if c.toNat=34∨c.toNat=123 then [c,c] else [c])
def encI(fmt:Int)(x:It):List UInt8:=
 if x.1=1 then x.2.1.flatMap (encB fmt) else if x.1=2 then [60]++x.2.1++[62] else if x.1=3 then [60,47]++x.2.1++[62] else if x.1=4 then [60]++x.2.1++[47,62] else if x.1=5 then [123]++x.2.1++[125] else []
def badTag(fmt:Int)(x:It):Bool:=isTagK x.1 && (decide (fmt ≠ 1) || blockL (nameOf x.2.1))
def encS(fmt:Int)(f:List It):List UInt8 × Int:=
 if validL f ≠ 0 then ([],validL f) else if f.any (badTag fmt) then ([],7) else (f.flatMap (encI fmt),0)
theorem encB_len(fmt:Int)(c:UInt8):1<=(encB fmt c).length/\(encB fmt c).length<=5:=by
 unfold encB
 repeat' split
 all_goals simp
end Go.Proofs.YtcfhfdphoidaeaaGreatDoor.St
namespace Go.Proofs.YtcfhfdphoidaeaaGreatDoor
def tot(f:List St.It):Nat:=(f.map fun x=>x.2.1.length).sum
theorem tot_snoc(f:List St.It)(x:St.It):tot (f++[x])=tot f+x.2.1.length:=by simp[tot]
theorem tot_add(f:List St.It)(x:St.It):tot (St.addI f x)<=tot f+x.2.1.length:=by
 rcases St.snoc_cases f with rfl|⟨a,b,rfl⟩
 ·rw[St.addI_nil];repeat' split
  all_goals simp[tot]
 ·rw[St.addI_snoc];repeat' split
  all_goals simp[tot] <;> omega
theorem tot_take(f:List St.It)(k:Nat)(h:k<f.length):tot (f.take (k+1))=tot (f.take k)+f[k].2.1.length:=by
 rw[List.take_add_one,List.getElem?_eq_getElem h];exact tot_snoc _ _
theorem tot_le(f:List St.It)(k:Nat):tot (f.take k)<=tot f:=by
 have:tot f=tot (f.take k)+tot (f.drop k):=by
  conv=>lhs;rw[<- List.take_append_drop k f]
  unfold tot;rw[List.map_append,List.sum_append]
 omega
theorem norm_take(f:List St.It)(k:Nat)(h:k<f.length):St.normL (f.take (k+1))=St.addI (St.normL (f.take k)) f[k]:=by
 rw[List.take_add_one,List.getElem?_eq_getElem h];exact St.normL_snoc _ _
end Go.Proofs.YtcfhfdphoidaeaaGreatDoor
namespace Go.Proofs.YtcfhfdphoidaeaaGreatDoor.St
def stepT(op:List It)(c:Nat)(k:Int)(t:List UInt8):Option (Int × List It × Nat):=
 if k=3 then (match op.getLast? with|none=>none|some o=>if nameOf o.2.1=t then some (o.2.2,op.dropLast,c) else none)
 else if k=2 then some ((c:Int)+1,op++[(2,t,(c:Int)+1)],c+1)
 else if k=4 then some ((c:Int)+1,op,c+1)
 else some (0,op,c)
abbrev Res:=List It × List Nat × Nat × Int
def endT(a d:Nat)(f:List It)(cuts:List Nat)(op:List It):Res:=if op=[] then (f,cuts++[d],0,0) else ([],[],a,7)
def decT(E:List UInt8->El):Nat->List UInt8->Nat->Nat->List It->List Nat->List It->Nat->Res
 | 0,_,a,d,f,cuts,op,_=>endT a d f cuts op
 | fuel+1,l,a,d,f,cuts,op,c=>
  if l=[] then endT a d f cuts op else
  match E l with
  | none=>([],[],a,2)
  | some (k,t,n)=>
   if k=0 then decT E fuel (l.drop n) (a+n) d f cuts op c else
   match stepT op c k t with
   | none=>([],[],a,7)
   | some (i,op',c')=>
    if 512<(addI f (k,t,i)).length∨1024<=cuts.length then ([],[],a,3) else
    decT E fuel (l.drop n) (a+n) (a+n) (addI f (k,t,i)) (cuts++[d]) op' c'
section
variable {E:List UInt8->El} {l:List UInt8} {k:Int} {t:List UInt8} {n:Nat} {op op':List It} {c c':Nat} {i:Int}
theorem decT_nil(fuel a d:Nat)(f:List It)(cuts:List Nat):decT E fuel [] a d f cuts op c=endT a d f cuts op:=by cases fuel <;> simp[decT]
theorem decT_none(fuel a d:Nat)(f:List It)(cuts:List Nat)(h0:l ≠ [])(h:E l=none):decT E (fuel+1) l a d f cuts op c=([],[],a,2):=by
 rw[decT,if_neg h0,h]
theorem decT_skip(fuel a d:Nat)(f:List It)(cuts:List Nat)(h0:l ≠ [])(h:E l=some (0,t,n)):decT E (fuel+1) l a d f cuts op c=decT E fuel (l.drop n) (a+n) d f cuts op c:=by
 rw[decT,if_neg h0,h];simp only[if_true]
theorem decT_tag(fuel a d:Nat)(f:List It)(cuts:List Nat)(h0:l ≠ [])(h:E l=some (k,t,n))(hk:k ≠ 0)(hs:stepT op c k t=none):decT E (fuel+1) l a d f cuts op c=([],[],a,7):=by
 rw[decT,if_neg h0,h];simp only;rw[if_neg hk,hs]
theorem decT_full(fuel a d:Nat)(f:List It)(cuts:List Nat)(h0:l ≠ [])(h:E l=some (k,t,n))(hk:k ≠ 0)(hs:stepT op c k t=some (i,op',c'))(hf:512<(addI f (k,t,i)).length∨1024<=cuts.length):decT E (fuel+1) l a d f cuts op c=([],[],a,3):=by
 rw[decT,if_neg h0,h];simp only;rw[if_neg hk,hs];simp only;rw[if_pos hf]
theorem decT_step(fuel a d:Nat)(f:List It)(cuts:List Nat)(h0:l ≠ [])(h:E l=some (k,t,n))(hk:k ≠ 0)(hs:stepT op c k t=some (i,op',c'))(hf:¬ (512<(addI f (k,t,i)).length∨1024<=cuts.length)) :
  decT E (fuel+1) l a d f cuts op c=decT E fuel (l.drop n) (a+n) (a+n) (addI f (k,t,i)) (cuts++[d]) op' c':=by
 rw[decT,if_neg h0,h];simp only;rw[if_neg hk,hs];simp only;rw[if_neg hf]
end
def decFT(E:List UInt8->El)(l:List UInt8)(a d:Nat)(f:List It)(cuts:List Nat)(op:List It)(c:Nat):Res:=decT E l.length l a d f cuts op c
section
variable {E:List UInt8->El} {l:List UInt8} {k:Int} {t:List UInt8} {n:Nat} {op op':List It} {c c':Nat} {i:Int}
end
def okT:List It->List It->Nat->Option (List It × Nat)
 | [],op,c=>some (op,c)
 | p :: ps,op,c=>match stepT op c p.1 p.2.1 with
  | none=>none
  | some (i,op',c')=>if i=p.2.2 then okT ps op' c' else none
theorem okT_append:∀ (ps qs:List It) (op:List It) (c:Nat) {op':List It} {c':Nat},okT ps op c=some (op',c')->okT (ps++qs) op c=okT qs op' c'
 | [],qs,op,c,op',c',h=>by simp only[okT,Option.some.injEq,Prod.mk.injEq] at h;obtain⟨rfl,rfl⟩:=h;rfl
 | p :: ps,qs,op,c,op',c',h=>by
  rw[List.cons_append,okT];rw[okT] at h;cases hs:stepT op c p.1 p.2.1 with
  | none=>rw[hs] at h;cases h
  | some y=>
   obtain⟨i,op2,c2⟩:=y;rw[hs] at h;simp only at h ⊢
   split at h
   ·rename_i hi
    rw[if_pos hi];exact okT_append ps qs op2 c2 h
   ·cases h
end Go.Proofs.YtcfhfdphoidaeaaGreatDoor.St
namespace Go.Proofs.YtcfhfdphoidaeaaGreatDoor.St
def innerL(l:List UInt8):List UInt8:=(l.drop 1).takeWhile (fun c=>decide (c.toNat ≠ 62))
def tagI(t:List UInt8):Option (Int × List UInt8):=
 if t.head?=some 47 then (if isNameL (t.drop 1) then some (3,t.drop 1) else none)
 else if t.getLast?=some 47 then (if isContentL t.dropLast then some (4,t.dropLast) else none)
 else if isContentL t then some (2,t) else none
def tagL(l:List UInt8):El:=if (innerL l).length+1<l.length then (tagI (innerL l)).map fun x=>(x.1,x.2,(innerL l).length+2) else none
def refL(l:List UInt8):El:=
 if ([38,108,116,59]:List UInt8).isPrefixOf l then some (1,[60],4)
 else if ([38,103,116,59]:List UInt8).isPrefixOf l then some (1,[62],4)
 else if ([38,97,109,112,59]:List UInt8).isPrefixOf l then some (1,[38],5)
 else if ([38,108,98,59]:List UInt8).isPrefixOf l then some (1,[123],4)
 else if ([38,114,98,59]:List UInt8).isPrefixOf l then some (1,[125],4) else none
def inlL(l:List UInt8):El:=match tagL l with
 | none=>none
 | some (k,t,n)=>if blockL (nameOf t) then none else some (k,t,n)
def markL:List UInt8->El
 | []=>none
 | c :: r=>if c.toNat=60 then inlL (c :: r) else if c.toNat=38 then refL (c :: r) else if c.toNat=123 then (slotL (c :: r)).map fun x=>(5,x.1,x.2) else some (1,[c],1)
theorem mark_60{c:UInt8}{r:List UInt8}(h:c.toNat=60):markL (c :: r)=inlL (c :: r):=by rw[markL,if_pos h]
theorem mark_38{c:UInt8}{r:List UInt8}(h:c.toNat=38):markL (c :: r)=refL (c :: r):=by rw[markL,if_neg (by omega),if_pos h]
theorem mark_123{c:UInt8}{r:List UInt8}(h:c.toNat=123):markL (c :: r)=(slotL (c :: r)).map fun x=>(5,x.1,x.2):=by rw[markL,if_neg (by omega),if_neg (by omega),if_pos h]
theorem mark_else{c:UInt8}{r:List UInt8}(h:c.toNat ≠ 60)(h2:c.toNat ≠ 38)(h3:c.toNat ≠ 123):markL (c :: r)=some (1,[c],1):=by rw[markL,if_neg h,if_neg h2,if_neg h3]
theorem tagI_kind{t:List UInt8}{k:Int}{u:List UInt8}(h:tagI t=some (k,u)):(k=2∨k=3∨k=4)/\u.length<=t.length:=by
 unfold tagI at h
 split at h
 ·split at h
  ·simp only[Option.some.injEq,Prod.mk.injEq] at h;obtain⟨rfl,rfl⟩:=h;exact⟨by omega,by simp⟩
  ·cases h
 ·split at h
  ·split at h
   ·simp only[Option.some.injEq,Prod.mk.injEq] at h;obtain⟨rfl,rfl⟩:=h;exact⟨by omega,by simp⟩
   ·cases h
  ·split at h
   ·simp only[Option.some.injEq,Prod.mk.injEq] at h;obtain⟨rfl,rfl⟩:=h;exact⟨by omega,by omega⟩
   ·cases h
theorem tag_len{l:List UInt8}{k:Int}{t:List UInt8}{n:Nat}(h:tagL l=some (k,t,n)):(k=2∨k=3∨k=4)/\2<=n/\n<=l.length/\t.length+2<=n:=by
 unfold tagL at h
 split at h
 ·cases hq:tagI (innerL l) with
  | none=>rw[hq] at h;cases h
  | some x=>
   obtain⟨k',u⟩:=x;rw[hq] at h;simp only[Option.map_some,Option.some.injEq,Prod.mk.injEq] at h;obtain⟨rfl,rfl,rfl⟩:=h;have:=tagI_kind hq
   exact⟨this.1,by omega,by omega,by omega⟩
 ·cases h
theorem ref_len{l:List UInt8}{k:Int}{t:List UInt8}{n:Nat}(h:refL l=some (k,t,n)):k=1/\1<=n/\n<=l.length/\t.length=1:=by
 unfold refL at h
 split at h
 ·rename_i hp
  simp only[Option.some.injEq,Prod.mk.injEq] at h;obtain⟨rfl,rfl,rfl⟩:=h;have:=(List.isPrefixOf_iff_prefix.1 hp).length_le
  exact⟨rfl,by omega,by simpa using this,rfl⟩
 split at h
 ·rename_i hp
  simp only[Option.some.injEq,Prod.mk.injEq] at h;obtain⟨rfl,rfl,rfl⟩:=h;have:=(List.isPrefixOf_iff_prefix.1 hp).length_le
  exact⟨rfl,by omega,by simpa using this,rfl⟩
 split at h
 ·rename_i hp
  simp only[Option.some.injEq,Prod.mk.injEq] at h;obtain⟨rfl,rfl,rfl⟩:=h;have:=(List.isPrefixOf_iff_prefix.1 hp).length_le
  exact⟨rfl,by omega,by simpa using this,rfl⟩
 split at h
 ·rename_i hp
  simp only[Option.some.injEq,Prod.mk.injEq] at h;obtain⟨rfl,rfl,rfl⟩:=h;have:=(List.isPrefixOf_iff_prefix.1 hp).length_le
  exact⟨rfl,by omega,by simpa using this,rfl⟩
 split at h
 ·rename_i hp
  simp only[Option.some.injEq,Prod.mk.injEq] at h;obtain⟨rfl,rfl,rfl⟩:=h;have:=(List.isPrefixOf_iff_prefix.1 hp).length_le
  exact⟨rfl,by omega,by simpa using this,rfl⟩
 ·cases h
theorem slot_len{l:List UInt8}{x:List UInt8 × Nat}(h:slotL l=some x):2<=x.2/\x.2<=l.length/\x.1.length+2=x.2/\isNameL x.1=true:=by
 unfold slotL at h;simp only[] at h
 split at h
 ·rename_i hq
  rw[Bool.and_eq_true,decide_eq_true_eq] at hq;simp only[Option.some.injEq] at h;subst h;exact⟨by simp,by simp only;omega,rfl,hq.2⟩
 ·cases h
theorem mark_len{l:List UInt8}{k:Int}{t:List UInt8}{n:Nat}(h:markL l=some (k,t,n)):(k=1∨k=2∨k=3∨k=4∨k=5)/\1<=n/\n<=l.length/\t.length<=n:=by
 match l,h with
 | c :: r,h=>
  by_cases h60:c.toNat=60
  ·rw[mark_60 h60] at h
   unfold inlL at h;cases hq:tagL (c :: r) with
   | none=>rw[hq] at h;cases h
   | some x=>
    obtain⟨k',t',n'⟩:=x;rw[hq] at h;simp only at h
    split at h
    ·cases h
    ·simp only[Option.some.injEq,Prod.mk.injEq] at h
     obtain⟨rfl,rfl,rfl⟩:=h;have:=tag_len hq
     exact⟨by omega,by omega,this.2.2.1,by omega⟩
  by_cases h38:c.toNat=38
  ·rw[mark_38 h38] at h
   have:=ref_len h
   exact⟨by omega,by omega,this.2.2.1,by omega⟩
  by_cases h123:c.toNat=123
  ·rw[mark_123 h123] at h
   cases hq:slotL (c :: r) with
   | none=>rw[hq] at h;cases h
   | some x=>
    rw[hq] at h;simp only[Option.map_some,Option.some.injEq,Prod.mk.injEq] at h;obtain⟨rfl,rfl,rfl⟩:=h;have:=slot_len hq
    exact⟨by omega,by omega,this.2.1,by omega⟩
  ·rw[mark_else h60 h38 h123] at h
   simp only[Option.some.injEq,Prod.mk.injEq] at h;obtain⟨rfl,rfl,rfl⟩:=h;exact⟨by omega,by omega,by simp,by simp⟩
end Go.Proofs.YtcfhfdphoidaeaaGreatDoor.St
namespace Go.Proofs.YtcfhfdphoidaeaaGreatDoor.St
def addN(l:List Int)(x:It):List Int:=if isTagK x.1=true/\x.2.2 ∉ l then l++[x.2.2] else l
def numL(f:List It):List Int:=f.foldl addN []
def renI(l:List Int)(x:It):It:=if isTagK x.1 then (x.1,x.2.1,(l.idxOf x.2.2:Int)+1) else x
def renumL(f:List It):List It:=normL (f.map (renI (numL f)))
def upL(c:Nat):List Int:=(List.range c).map fun (i:Nat)=>(i:Int)+1
theorem upL_suc(c:Nat):upL (c+1)=upL c++[(c:Int)+1]:=by unfold upL;rw[List.range_succ,List.map_append];rfl
theorem upL_len(c:Nat):(upL c).length=c:=by simp[upL]
theorem mem_upL{c:Nat}{i:Int}:i ∈ upL c ↔ 1<=i/\i<=c:=by
 unfold upL;rw[List.mem_map];constructor
 ·rintro ⟨j,hj,rfl⟩
  have:=List.mem_range.1 hj
  omega
 ·rintro ⟨h1,h2⟩
  exact⟨i.toNat-1,List.mem_range.2 (by omega),by omega⟩
theorem idx_upL:∀ (c:Nat) (i:Int),1<=i->i<=c->(upL c).idxOf i=i.toNat-1
 | 0,i,h1,h2=>by omega
 | c+1,i,h1,h2=>by
  rw[upL_suc]
  by_cases h:i<=c
  ·rw[List.idxOf_append,if_pos (mem_upL.2 ⟨h1,h⟩)];exact idx_upL c i h1 h
  ·have hi:i=(c:Int)+1:=by omega
   subst hi;rw[List.idxOf_append,if_neg (fun e=>by have:=(mem_upL.1 e).2;omega),upL_len];simp <;> omega
theorem num_bytes(t:List UInt8)(l:List Int):(t.map (fun c=>((1:Int),[c],(0:Int)))).foldl addN l=l:=by
 induction t with
 | nil=>rfl
 | cons c t ih=>
  rw[List.map_cons,List.foldl_cons];have:addN l (1,[c],0)=l:=by unfold addN;rw[if_neg];intro h;exact absurd h.1 (by simp[isTagK])
  rw[this];exact ih
theorem num_pos(f:List It)(l:List Int):(posI f).foldl addN l=f.foldl addN l:=by
 induction f generalizing l with
 | nil=>rfl
 | cons x f ih=>
  have e:posI (x :: f)=(if x.1=1 then x.2.1.map (fun c=>((1:Int),[c],(0:Int))) else [x])++posI f:=by simp[posI]
  rw[e,List.foldl_append,List.foldl_cons,ih];congr 1
  split
  ·rename_i h
   rw[num_bytes];unfold addN;rw[if_neg];intro h2;have:=h2.1
   rw[h] at this;simp[isTagK] at this
  ·rfl
theorem okT_num:∀ (ps op:List It) (c:Nat) {op':List It} {c':Nat},okT ps op c=some (op',c')->(∀ o ∈ op,1<=o.2.2/\o.2.2<=c) ->
  ps.foldl addN (upL c)=upL c'/\(∀ o ∈ op',1<=o.2.2/\o.2.2<=c')/\c<=c'/\∀ p ∈ ps,isTagK p.1=true->1<=p.2.2/\p.2.2<=c'
 | [],op,c,op',c',h,ho=>by
  simp only[okT,Option.some.injEq,Prod.mk.injEq] at h;obtain⟨rfl,rfl⟩:=h;exact⟨rfl,ho,Nat.le_refl _,fun p hp=>by cases hp⟩
 | p :: ps,op,c,op',c',h,ho=>by
  rw[okT] at h;cases hs:stepT op c p.1 p.2.1 with
  | none=>rw[hs] at h;cases h
  | some y=>
   obtain⟨i,op2,c2⟩:=y;rw[hs] at h;simp only at h
   split at h
   ·rename_i hi
    subst hi
    have key:addN (upL c) p=upL c2/\(∀ o ∈ op2,1<=o.2.2/\o.2.2<=c2)/\c<=c2/\(isTagK p.1=true->1<=p.2.2/\p.2.2<=c2):=by
     unfold stepT at hs
     split at hs
     ·rename_i h3
      cases hg:op.getLast? with
      | none=>rw[hg] at hs;cases hs
      | some o=>
       rw[hg] at hs;simp only at hs
       split at hs
       ·simp only[Option.some.injEq,Prod.mk.injEq] at hs
        obtain⟨h5,rfl,rfl⟩:=hs;have hom:o ∈ op:=List.mem_of_getLast? hg;have:=ho o hom
        refine⟨?_,fun q hq=>ho q (List.dropLast_subset _ hq),Nat.le_refl _,fun _=>by omega⟩;unfold addN;rw[if_neg];rintro ⟨_,hn⟩;exact hn (mem_upL.2 (by omega))
       ·cases hs
     split at hs
     ·rename_i h3 h2
      simp only[Option.some.injEq,Prod.mk.injEq] at hs;obtain⟨h5,rfl,rfl⟩:=hs;refine⟨?_,fun q hq=>?_,by omega,fun _=>by omega⟩
      ·unfold addN
       rw[if_pos ⟨by rw[h2];rfl,fun e=>by have:=(mem_upL.1 e).2;omega⟩,upL_suc,h5]
      ·rcases List.mem_append.1 hq with hq|hq
       ·have:=ho q hq;omega
       ·simp at hq;subst hq;simp only;omega
     split at hs
     ·rename_i h3 h2 h4
      simp only[Option.some.injEq,Prod.mk.injEq] at hs;obtain⟨h5,rfl,rfl⟩:=hs;refine⟨?_,fun q hq=>by have:=ho q hq;omega,by omega,fun _=>by omega⟩;unfold addN;rw[if_pos ⟨by rw[h4];rfl,fun e=>by have:=(mem_upL.1 e).2;omega⟩,upL_suc,h5]
     ·rename_i h3 h2 h4
      simp only[Option.some.injEq,Prod.mk.injEq] at hs;obtain⟨h5,rfl,rfl⟩:=hs;have hnt:isTagK p.1=false:=by unfold isTagK;simp[h2,h3,h4]
      refine⟨?_,ho,Nat.le_refl _,fun e=>by rw[hnt] at e;cases e⟩;unfold addN;rw[if_neg (fun e=>by rw[hnt] at e;cases e.1)]
    obtain⟨k1,k2,k3,k4⟩:=key;obtain⟨g1,g2,g3,g4⟩:=okT_num ps op2 c2 h k2;refine⟨by rw[List.foldl_cons,k1];exact g1,g2,by omega,fun q hq ht=>?_⟩;rcases List.mem_cons.1 hq with rfl|hq
    ·have:=k4 ht;omega
    ·exact g4 q hq ht
   ·cases h
theorem renum_ok{f:List It}{op:List It}{c:Nat}(h:okT (posI f) [] 0=some (op,c)):numL f=upL c/\f.map (renI (numL f))=f:=by
 obtain⟨h1,_,_,h4⟩:=okT_num _ _ _ h fun o ho=>by cases ho
 have hn:numL f=upL c:=by rw[num_pos] at h1;exact h1
 refine⟨hn,?_⟩;rw[hn];refine(List.map_congr_left fun x hx=>?_).trans (List.map_id f);unfold renI
 split
 ·rename_i ht
  have hne:x.1 ≠ 1:=fun e=>by rw[e] at ht;simp[isTagK] at ht
  have hm:x ∈ posI f:=by
   unfold posI;exact List.mem_flatMap.2 ⟨x,hx,by rw[if_neg hne];simp⟩
  obtain⟨g1,g2⟩:=h4 x hm ht;rw[idx_upL c _ g1 g2];obtain⟨k,t,i⟩:=x;simp only at g1 g2 ⊢;have:((i.toNat-1:Nat):Int)+1=i:=by omega
  rw[this];rfl
 ·rfl
end Go.Proofs.YtcfhfdphoidaeaaGreatDoor.St
namespace Go.Proofs.YtcfhfdphoidaeaaGreatDoor.St
theorem lenL_add(f:List It)(x:It):lenL (addI f x)=lenL f+widthI x:=by
 rcases snoc_cases f with rfl|⟨a,b,rfl⟩
 ·rw[addI_nil];unfold widthI
  split
  ·rename_i h
   split
   ·rename_i h2;simp[lenL,h2]
   ·simp[lenL,widthI]
  ·rename_i h;simp[lenL,widthI,h]
 ·rw[addI_snoc]
  split
  ·rename_i h
   split
   ·rename_i h2
    have:widthI x=0:=by unfold widthI;rw[if_pos h,h2];rfl
    omega
   ·split
    ·rename_i h3
     rw[lenL_snoc,lenL_snoc];unfold widthI;rw[if_pos rfl,if_pos h3,if_pos h];simp only[List.length_append];omega
    ·rw[lenL_snoc,lenL_snoc]
     congr 1;unfold widthI;rw[if_pos rfl,if_pos h]
  ·rw[lenL_snoc]
structure DecOk (L:Nat) (R:Res):Prop where
 nm:Nm R.1
 len:R.1.length<=512
 cl:R.2.1.length=lenL R.1+1
 le:lenL R.1<=1024
 tot:tot R.1<=L
 mono:R.2.1.Pairwise (·<=·)
 top:∀ c ∈ R.2.1,c<=L
def ElOk(E:List UInt8->El):Prop:=∀ l k t n,E l=some (k,t,n)->1<=n/\n<=l.length/\t.length<=n/\(k=1->t.length=1)
theorem end_ok{L:Nat}{l:List UInt8}{a d:Nat}{f:List It}{cuts:List Nat}{op:List It}(h1:Nm f)(h2:f.length<=512)(h3:cuts.length=lenL f)(h4:cuts.length<=1024)(h5:(cuts++[d]).Pairwise (·<=·))(h6:d<=a)(h7:a+l.length<=L)(h8:tot f<=a)(he:(endT a d f cuts op).2.2.2=0):DecOk L (endT a d f cuts op):=by
 unfold endT at he ⊢
 split at he
 ·rename_i h
  rw[if_pos h];refine⟨h1,h2,by simp[h3],by simp only;omega,by simp only;omega,h5,fun c hc=>?_⟩;rcases List.mem_append.1 hc with hc|hc
  ·have:=(List.pairwise_append.1 h5).2.2 c hc d (by simp);omega
  ·simp at hc;omega
 ·cases he
theorem decT_ok{E:List UInt8->El}(hE:ElOk E){L:Nat}:∀ (fuel:Nat) (l:List UInt8) (a d:Nat) (f:List It) (cuts:List Nat) (op:List It) (c:Nat),Nm f->f.length<=512->cuts.length=lenL f->cuts.length<=1024->(cuts++[d]).Pairwise (·<=·)->d<=a->a+l.length<=L->tot f<=a ->
  (decT E fuel l a d f cuts op c).2.2.2=0->DecOk L (decT E fuel l a d f cuts op c)
 | 0,l,a,d,f,cuts,op,c,h1,h2,h3,h4,h5,h6,h7,h8,he=>by
  unfold decT at he ⊢;exact end_ok h1 h2 h3 h4 h5 h6 h7 h8 he
 | fuel+1,l,a,d,f,cuts,op,c,h1,h2,h3,h4,h5,h6,h7,h8,he=>by
  by_cases h0:l=[]
  ·subst h0
   rw[decT_nil] at he ⊢;exact end_ok h1 h2 h3 h4 h5 h6 h7 h8 he
  ·cases hq:E l with
   | none=>rw[decT_none _ _ _ _ _ h0 hq] at he;cases he
   | some x=>
    obtain⟨k,t,n⟩:=x;obtain⟨e1,e2,e3,e4⟩:=hE _ _ _ _ hq;have hdl:(l.drop n).length=l.length-n:=List.length_drop
    by_cases hk:k=0
    ·subst hk
     rw[decT_skip _ _ _ _ _ h0 hq] at he ⊢;exact decT_ok hE fuel _ _ _ _ _ _ _ h1 h2 h3 h4 h5 (by omega) (by omega) (by omega) he
    ·cases hs:stepT op c k t with
     | none=>rw[decT_tag _ _ _ _ _ h0 hq hk hs] at he;cases he
     | some y=>
      obtain⟨i,op',c'⟩:=y
      by_cases hf:512<(addI f (k,t,i)).length∨1024<=cuts.length
      ·rw[decT_full _ _ _ _ _ h0 hq hk hs hf] at he;cases he
      ·rw[decT_step _ _ _ _ _ h0 hq hk hs hf] at he ⊢
       have hw:widthI (k,t,i)=1:=by
        unfold widthI
        split
        ·rename_i hk1;exact e4 hk1
        ·rfl
       have hta:=tot_add f (k,t,i);refine decT_ok hE fuel _ _ _ _ _ _ _ (nm_add h1 _) (by omega) ?_ (by simp;omega) ?_ (by omega) (by omega) ?_ he
       ·rw[List.length_append,List.length_singleton,lenL_add,hw,h3]
       ·rw[List.pairwise_append]
        refine⟨h5,by simp,fun x hx y hy=>?_⟩;simp at hy;subst hy;rcases List.mem_append.1 hx with hx|hx
        ·have:=(List.pairwise_append.1 h5).2.2 x hx d (by simp);omega
        ·simp at hx;omega
       ·simp only at hta;omega
def rawP(ps:List Pt):List UInt8:=ps.flatMap (·.2.2)
def validD(S:List UInt8->List Pt × Nat × Int)(ps:List Pt):Int:=if (S (rawP ps)).2.2=0/\(S (rawP ps)).1=ps then 0 else 11
def ptAt(ps:List Pt)(k:Int):Pt:=if 0<=k then (ps[k.toNat]?).getD (false,[],[]) else (false,[],[])
def contD(D:List UInt8->Res)(ps:List Pt)(k:Int):Res:=if (ptAt ps k).1=true then D (ptAt ps k).2.2 else ([],[],0,6)
def ascL(n:Nat):Int->List (Int × Int)->Bool
 | _,[]=>true
 | at',r :: rs=>if r.1<at'∨r.2<r.1∨(n:Int)<r.2 then false else ascL n r.2 rs
def encR(E:List It->List UInt8 × Int)(raw:List UInt8)(cuts:List Nat):Nat->List UInt8->List (Int × Int)->List (List It)->Except Int (List UInt8 × Nat)
 | at',s,r :: rs,t :: ts=>if (E t).2 ≠ 0 then .error (E t).2 else encR E raw cuts (cuts.getD r.2.toNat 0) (s++((raw.take (cuts.getD r.1.toNat 0)).drop at'++(E t).1)) rs ts
 | at',s,_,_=>.ok (s,at')
def replF(f:List It):Nat->List It->List (Int × Int)->List (List It)->List It × Nat
 | at',out,r :: rs,t :: ts=>replF f r.2.toNat (normL (normL (out++sliceL at' r.1.toNat 0 f)++t)) rs ts
 | at',out,_,_=>(out,at')
def replL(f:List It)(rs:List (Int × Int))(ts:List (List It)):List It:=
 normL ((replF f 0 [] rs ts).1++sliceL (replF f 0 [] rs ts).2 (lenL f) 0 f)
def setRaw(ps:List Pt)(k:Nat)(s:List UInt8):List Pt:=ps.modify k fun p=>(p.1,p.2.1,s)
def replE(D:List UInt8->Res)(fmt:Int)(ps:List Pt)(k:Nat)(want:List It)(s:List UInt8):(Int × List Pt) × Int:=
 if (D s).2.2.2 ≠ 0 then ((0,[]),(D s).2.2.2) else if (D s).1 ≠ want then ((0,[]),11)
 else if 65536<(rawP (setRaw ps k s)).length then ((0,[]),3) else ((fmt,setRaw ps k s),0)
def replD(D:List UInt8->Res)(S:List UInt8->List Pt × Nat × Int)(E:List It->List UInt8 × Int)(fmt:Int)(ps:List Pt)(k:Int)(rs:List (Int × Int))(ts:List (List It)):(Int × List Pt) × Int:=
 if validD S ps ≠ 0 then ((0,[]),validD S ps) else if (contD D ps k).2.2.2 ≠ 0 then ((0,[]),(contD D ps k).2.2.2)
 else if ts.length ≠ rs.length∨ascL (lenL (contD D ps k).1) 0 rs=false then ((0,[]),1)
 else match encR E (ptAt ps k).2.2 (contD D ps k).2.1 0 [] rs ts with
  | .error e=>((0,[]),e)
  | .ok (s,at')=>replE D fmt ps k.toNat (renumL (replL (contD D ps k).1 rs ts)) (s++(ptAt ps k).2.2.drop at')
end Go.Proofs.YtcfhfdphoidaeaaGreatDoor.St
