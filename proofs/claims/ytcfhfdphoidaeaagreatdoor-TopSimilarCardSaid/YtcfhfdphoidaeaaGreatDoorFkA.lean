/- The tagged edit distance of two lists of tokens as plain functions, and that the bounds. -/
import Derived.Test.YtcfhfdphoidaeaaGreatDoorGA
set_option linter.unusedVariables false
set_option linter.unusedSimpArgs false
set_option maxHeartbeats 12800000
set_option linter.all false
namespace Go.Proofs.YtcfhfdphoidaeaaGreatDoor
namespace St
section
variable {C:Type} [BEq C] [LawfulBEq C]
def comS(L:List C)(g:C->Nat)(A B:List C):Nat:=(L.map fun c=>g c*min (A.count c) (B.count c)).sum
theorem comS_cons(c:C)(L:List C)(g:C->Nat)(A B:List C):comS (c :: L) g A B=g c*min (A.count c) (B.count c)+comS L g A B:=by simp[comS]
theorem comS_mono(g:C->Nat){A A' B B':List C}(hA:∀ c,A.count c<=A'.count c)(hB:∀ c,B.count c<=B'.count c):∀ L:List C,comS L g A B<=comS L g A' B'
 | []=>by simp[comS]
 | c :: L=>by
  rw[comS_cons,comS_cons];have h1:=comS_mono g hA hB L
  have h2:min (A.count c) (B.count c)<=min (A'.count c) (B'.count c):=by
   have:=hA c;have:=hB c;omega
  have h3:=Nat.mul_le_mul_left (g c) h2;omega
theorem comS_left(L:List C)(g:C->Nat)(x:C)(A B:List C):comS L g A B<=comS L g (x :: A) B:=
 comS_mono g (fun c=>by rw[List.count_cons];omega) (fun _=>Nat.le_refl _) L
theorem comS_right(L:List C)(g:C->Nat)(x:C)(A B:List C):comS L g A B<=comS L g A (x :: B):=
 comS_mono g (fun _=>Nat.le_refl _) (fun c=>by rw[List.count_cons];omega) L
theorem comS_comm(g:C->Nat)(A B:List C):∀ L:List C,comS L g A B=comS L g B A
 | []=>rfl
 | c :: L=>by rw[comS_cons,comS_cons,comS_comm g A B L,Nat.min_comm]
theorem comS_off(g:C->Nat)(x:C)(A B:List C):∀ L:List C,x ∉ L->comS L g (x :: A) (x :: B)=comS L g A B
 | [],_=>rfl
 | c :: L,h=>by
  simp only[List.mem_cons,not_or] at h;rw[comS_cons,comS_cons,comS_off g x A B L h.2,List.count_cons_of_ne h.1,List.count_cons_of_ne h.1]
theorem comS_match(g:C->Nat)(x:C)(A B:List C):∀ L:List C,L.Nodup->x ∈ L->comS L g (x :: A) (x :: B)=comS L g A B+g x
 | [],_,h=>by cases h
 | c :: L,hn,h=>by
  obtain⟨h1,h2⟩:=List.nodup_cons.1 hn
  by_cases e:x=c
  ·subst e
   rw[comS_cons,comS_cons,comS_off g x A B L h1,List.count_cons_self,List.count_cons_self,show min (A.count x+1) (B.count x+1)=min (A.count x) (B.count x)+1 by omega,Nat.mul_succ];omega
  ·have hm:x ∈ L:=by simpa [e] using h
   rw[comS_cons,comS_cons,comS_match g x A B L h2 hm,List.count_cons_of_ne e,List.count_cons_of_ne e];omega
theorem comS_off1(g:C->Nat)(x:C)(A B:List C):∀ L:List C,x ∉ L->comS L g (x :: A) B=comS L g A B
 | [],_=>rfl
 | c :: L,h=>by
  simp only[List.mem_cons,not_or] at h;rw[comS_cons,comS_cons,comS_off1 g x A B L h.2,List.count_cons_of_ne h.1]
theorem comS_less(g:C->Nat)(x:C)(A B:List C):∀ L:List C,L.Nodup->comS L g (x :: A) B<=comS L g A B+g x
 | [],_=>by simp[comS]
 | c :: L,hn=>by
  obtain⟨h1,h2⟩:=List.nodup_cons.1 hn;rw[comS_cons,comS_cons]
  by_cases e:x=c
  ·subst e
   rw[comS_off1 g x A B L h1,List.count_cons_self];have h3:min (A.count x+1) (B.count x)<=min (A.count x) (B.count x)+1:=by omega
   have h4:=Nat.mul_le_mul_left (g x) h3;rw[Nat.mul_add,Nat.mul_one] at h4;omega
  ·rw[List.count_cons_of_ne e]
   have:=comS_less g x A B L h2
   omega
theorem comS_none(g:C->Nat)(x:C)(A B:List C)(h:x ∉ B):∀ L:List C,comS L g (x :: A) B=comS L g A B
 | []=>rfl
 | c :: L=>by
  rw[comS_cons,comS_cons,comS_none g x A B h L]
  by_cases e:x=c
  ·subst e
   rw[List.count_eq_zero_of_not_mem h];simp
  ·rw[List.count_cons_of_ne e]
theorem comS_cover(g:C->Nat)(A B:List C){L L':List C}(hn:L.Nodup)(hn':L'.Nodup)(hc:∀ c ∈ B,c ∈ L)(hc':∀ c ∈ B,c ∈ L'):comS L g A B=comS L' g A B:=by
 have key:∀ M:List C,comS M g A B=comS (M.filter fun c=>B.elem c) g A B:=by
  intro M
  induction M with
  | nil=>rfl
  | cons c M ih=>
   rw[comS_cons,ih,List.filter_cons]
   by_cases h:B.elem c=true
   ·rw[if_pos h,comS_cons]
   ·rw[if_neg h]
    have h':c ∉ B:=fun hm=>h (by simpa using hm)
    rw[List.count_eq_zero_of_not_mem h'];simp
 have hp:(L.filter fun c=>B.elem c).Perm (L'.filter fun c=>B.elem c):=by
  refine(List.perm_ext_iff_of_nodup (hn.filter _) (hn'.filter _)).2 fun c=>?_
  simp only[List.mem_filter,List.elem_eq_mem,decide_eq_true_eq];exact⟨fun h=>⟨hc' c h.2,h.2⟩,fun h=>⟨hc c h.2,h.2⟩⟩
 rw[key L,key L'];exact(hp.map _).sum_nat
end
abbrev Tk:=Int × List UInt8 × Int
abbrev Cl:=Int × List UInt8
def lowB(c:UInt8):UInt8:=if 65<=c.toNat/\c.toNat<=90 then c+32 else c
def lowL(t:List UInt8):List UInt8:=t.map lowB
def tagT(k:Int):Bool:=k==2 || k==3 || k==4
def tkeyL(t:Tk):List UInt8:=if t.1=6 then lowL t.2.1 else t.2.1
def weightK(k:Int):Nat:=if k=6∨k=5 then 4 else if k=7∨k=2∨k=3∨k=4 then 3 else if k=9 then 2 else if k=8 then 1 else 0
def totalT(l:List Tk):Nat:=(l.map fun t=>weightK t.1).sum
def sameT(a b:Tk):Bool:=a.1==b.1 && a.2.1==b.2.1
def subK(k:Int):Bool:=k==7 || k==8 || k==9 || k==5
def costT(a b:Tk):Option Nat:=
 if sameT a b then some 0 else if a.1 ≠ b.1 then none else if a.1=6 then (if tkeyL a=tkeyL b then some 1 else some 4) else if subK a.1 then some (weightK a.1) else none
def singleT(t:Tk):Nat:=if tagT t.1 then 1 else weightK t.1
def clsT(t:Tk):Option Cl:=if subK t.1 || t.1==6 then some (t.1,tkeyL t) else if tagT t.1 then some (t.1,t.2.1) else none
def clsL(l:List Tk):List Cl:=l.filterMap clsT
def priceR:List Tk->List Tk->Nat
 | [],[]=>0
 | [],y :: b=>priceR [] b+singleT y
 | x :: a,[]=>priceR a []+singleT x
 | x :: a,y :: b=>
  let m:=min (priceR a (y :: b)+singleT x) (priceR (x :: a) b+singleT y)
  match costT x y with
  | some c=>min m (priceR a b+c)
  | none=>m
def wordN(l:List Tk):List (List UInt8):=(l.filter fun t=>t.1==6).map tkeyL
def nontagW(l:List Cl):Nat:=((l.filter fun c=>!tagT c.1).map fun c=>weightK c.1).sum
def tagN(l:List Cl):Nat:=(l.filter fun c=>tagT c.1).length
def saveG(c:Cl):Nat:=if tagT c.1 then 2 else weightK c.1
theorem nontagW_cons(c:Cl)(l:List Cl):nontagW (c :: l)=(if tagT c.1 then 0 else weightK c.1)+nontagW l:=by
 unfold nontagW;rw[List.filter_cons];cases h:tagT c.1 <;> simp
theorem tagN_cons(c:Cl)(l:List Cl):tagN (c :: l)=(if tagT c.1 then 1 else 0)+tagN l:=by
 unfold tagN;rw[List.filter_cons];cases h:tagT c.1 <;> simp <;> omega
theorem clsL_cons(t:Tk)(l:List Tk):clsL (t :: l)=match clsT t with|some c=>c :: clsL l|none=>clsL l:=by
 unfold clsL;rw[List.filterMap_cons];cases clsT t <;> rfl
theorem cls_kind{t:Tk}{c:Cl}(h:clsT t=some c):c.1=t.1:=by
 unfold clsT at h
 split at h
 ·cases h;rfl
 ·split at h
  ·cases h;rfl
  ·cases h
theorem cls_none{t:Tk}(h:clsT t=none):weightK t.1=0/\tagT t.1=false:=by
 unfold clsT at h
 split at h
 ·cases h
 ·rename_i h1
  split at h
  ·cases h
  ·rename_i h2
   have h2':tagT t.1=false:=by simpa using h2
   refine⟨?_,h2'⟩;simp[subK,tagT] at h1 h2';unfold weightK;simp only[h1,h2',or_self,if_false]
theorem single_cls{t:Tk}{c:Cl}(h:clsT t=some c):singleT t=if tagT c.1 then 1 else weightK c.1:=by rw[cls_kind h];rfl
theorem same_cls{x y:Tk}(h:sameT x y=true):clsT x=clsT y:=by
 simp only[sameT,Bool.and_eq_true,beq_iff_eq] at h;unfold clsT tkeyL;rw[h.1,h.2]
theorem cost_ways{x y:Tk}{c:Nat}(h:costT x y=some c):clsT x=clsT y∨∃ k l,clsT x=some k/\clsT y=some l/\k.1=l.1/\tagT k.1=false/\c=weightK k.1:=by
 unfold costT at h
 split at h
 ·exact .inl (same_cls (by assumption))
 ·split at h
  ·cases h
  ·rename_i _ he
   have he':x.1=y.1:=by simpa using he
   split at h
   ·rename_i h6
    by_cases hk:tkeyL x=tkeyL y
    ·left
     unfold clsT;rw[<- he',h6,hk];rfl
    ·rw[if_neg hk] at h
     cases h;refine .inr ⟨(x.1,tkeyL x),(y.1,tkeyL y),by simp[clsT,h6],by simp[clsT,<- he',h6],he',by simp[h6,tagT],by simp[h6,weightK]⟩
   ·split at h
    ·rename_i hs
     cases h;refine .inr ⟨(x.1,tkeyL x),(y.1,tkeyL y),by simp[clsT,hs],by simp[clsT,<- he',hs],he',?_,rfl⟩;simp only[subK,Bool.or_eq_true,beq_iff_eq] at hs
     show tagT x.1=false
     rcases hs with ((hs|hs)|hs)|hs <;> rw[hs] <;> rfl
    ·cases h
theorem price_cases(x y:Tk)(a b:List Tk):priceR (x :: a) (y :: b)=priceR a (y :: b)+singleT x∨priceR (x :: a) (y :: b)=priceR (x :: a) b+singleT y∨∃ c,costT x y=some c/\priceR (x :: a) (y :: b)=priceR a b+c:=by
 rw[priceR];cases h:costT x y with
 | none=>simp only[];omega
 | some c=>
  simp only[]
  by_cases h1:priceR a b+c<=min (priceR a (y :: b)+singleT x) (priceR (x :: a) b+singleT y)
  ·exact .inr (.inr ⟨c,rfl,by omega⟩)
  ·by_cases h2:priceR a (y :: b)+singleT x<=priceR (x :: a) b+singleT y
   ·exact .inl (by omega)
   ·exact .inr (.inl (by omega))
def bagOk(L:List Cl)(a b:List Tk)(p:Nat):Prop:=max (nontagW (clsL a)) (nontagW (clsL b))+tagN (clsL a)+tagN (clsL b)<=comS L saveG (clsL a) (clsL b)+p
theorem bag_del{L:List Cl}{a b:List Tk}{p:Nat}(x:Tk)(h:bagOk L a b p):bagOk L (x :: a) b (p+singleT x):=by
 unfold bagOk at h ⊢;rw[clsL_cons];cases hx:clsT x with
 | none=>simp only[];omega
 | some c=>
  simp only[];rw[nontagW_cons,tagN_cons,single_cls hx];have:=comS_left L saveG c (clsL a) (clsL b)
  split <;> omega
theorem bag_ins{L:List Cl}{a b:List Tk}{p:Nat}(y:Tk)(h:bagOk L a b p):bagOk L a (y :: b) (p+singleT y):=by
 unfold bagOk at h ⊢;rw[clsL_cons];cases hy:clsT y with
 | none=>simp only[];omega
 | some c=>
  simp only[];rw[nontagW_cons,tagN_cons,single_cls hy];have:=comS_right L saveG c (clsL a) (clsL b)
  split <;> omega
theorem bag_pair{L:List Cl}{a b:List Tk}{p c:Nat}{x y:Tk}(hn:L.Nodup)(hc:costT x y=some c)(hm:∀ k,clsT y=some k->k ∈ L)(h:bagOk L a b p):bagOk L (x :: a) (y :: b) (p+c):=by
 unfold bagOk at h ⊢;rw[clsL_cons,clsL_cons];rcases cost_ways hc with e|⟨k,l,hx,hy,he,ht,rfl⟩
 ·rw[e]
  cases hy:clsT y with
  | none=>simp only[];omega
  | some k=>
   simp only[];rw[nontagW_cons,tagN_cons,nontagW_cons,tagN_cons,comS_match saveG k _ _ L hn (hm k hy),show saveG k=if tagT k.1 then 2 else weightK k.1 from rfl]
   split <;> omega
 ·rw[hx,hy]
  simp only[];rw[nontagW_cons,tagN_cons,nontagW_cons,tagN_cons,<- he,ht];simp only[Bool.false_eq_true,if_false];have h1:=comS_left L saveG k (clsL a) (clsL b);have h2:=comS_right L saveG l (k :: clsL a) (clsL b);omega
theorem bag_price{L:List Cl}(hn:L.Nodup):∀ a b:List Tk,(∀ y ∈ b,∀ k,clsT y=some k->k ∈ L)->bagOk L a b (priceR a b)
 | [],[],_=>by simp[bagOk,clsL,nontagW,tagN,priceR]
 | [],y :: b,h=>by
  rw[priceR];exact bag_ins y (bag_price hn [] b fun z hz=>h z (List.mem_cons_of_mem _ hz))
 | x :: a,[],h=>by
  rw[priceR];exact bag_del x (bag_price hn a [] h)
 | x :: a,y :: b,h=>by
  have hb:=fun z hz=>h z (List.mem_cons_of_mem _ hz)
  rcases price_cases x y a b with e|e|⟨c,hc,e⟩ <;> rw[e]
  ·exact bag_del x (bag_price hn a (y :: b) h)
  ·exact bag_ins y (bag_price hn (x :: a) b hb)
  ·exact bag_pair hn hc (h y (List.mem_cons_self ..)) (bag_price hn a b hb)
abbrev Wd:=List UInt8
def hdW:List Wd->Wd
 | []=>[]
 | w :: _=>w
def inP:List Wd->List (Wd × Wd)
 | []=>[]
 | w :: u=>(hdW u,w) :: inP u
def endP(u:List Wd):List (Wd × Wd):=(hdW u,[]) :: inP u
theorem inP_second:∀ {u:List Wd},(∀ w ∈ u,w ≠ [])->∀ p ∈ inP u,p.2 ≠ []
 | [],_,p,hp=>by cases hp
 | w :: u,h,p,hp=>by
  rcases List.mem_cons.1 hp with rfl|hp
  ·exact h w (List.mem_cons_self ..)
  ·exact inP_second (fun v hv=>h v (List.mem_cons_of_mem _ hv)) p hp
def one{C:Type}(_:C):Nat:=1
def pairOk(L:List (Wd × Wd))(u v:List Wd)(k:Nat):Prop:=max u.length v.length+1<=comS L one (endP u) (endP v)+2*k
theorem pair_del{L:List (Wd × Wd)}{u v:List Wd}{k:Nat}(hn:L.Nodup)(x:Wd)(h:pairOk L u v k):pairOk L (x :: u) v (k+1):=by
 unfold pairOk at h ⊢;have h1:comS L one (endP u) (endP v)<=comS L one (inP u) (endP v)+1:=comS_less one _ _ _ L hn;have h2:comS L one (inP u) (endP v)<=comS L one (endP (x :: u)) (endP v):=Nat.le_trans (comS_left L one _ _ _) (comS_left L one _ _ _);rw[List.length_cons];omega
theorem pair_ins{L:List (Wd × Wd)}{u v:List Wd}{k:Nat}(hn:L.Nodup)(y:Wd)(h:pairOk L u v k):pairOk L u (y :: v) (k+1):=by
 unfold pairOk at h ⊢;rw[comS_comm,Nat.max_comm] at h ⊢;exact pair_del hn y h
theorem end_in{L:List (Wd × Wd)}{u v:List Wd}(hu:∀ w ∈ u,w ≠ [])(hv:∀ w ∈ v,w ≠ [])(hn:L.Nodup) :
  comS L one (endP u) (endP v)<=comS L one (inP u) (inP v)+(if hdW u=hdW v then 1 else 0):=by
 by_cases e:hdW u=hdW v
 ·rw[if_pos e]
  unfold endP;rw[e]
  by_cases hm:(hdW v,[]) ∈ L
  ·rw[comS_match one _ _ _ L hn hm];exact Nat.le_refl _
  ·rw[comS_off one _ _ _ L hm];omega
 ·rw[if_neg e]
  unfold endP;rw[comS_none one _ _ _ (fun hm=>?_),comS_comm,comS_none one _ _ _ (fun hm=>?_),comS_comm]
  ·exact Nat.le_refl _
  ·exact inP_second hu _ hm rfl
  ·rcases List.mem_cons.1 hm with h|h
   ·exact e (by injection h)
   ·exact inP_second hv _ h rfl
theorem pair_sub{L:List (Wd × Wd)}{u v:List Wd}{k:Nat}(hn:L.Nodup)(x y:Wd)(hu:∀ w ∈ u,w ≠ [])(hv:∀ w ∈ v,w ≠ [])(h:pairOk L u v k):pairOk L (x :: u) (y :: v) (k+1):=by
 unfold pairOk at h ⊢;have h1:=end_in hu hv hn
 have h2:comS L one (inP u) (inP v)<=comS L one (endP (x :: u)) (endP (y :: v)):=
  Nat.le_trans (Nat.le_trans (comS_left L one (hdW u,x) _ _) (comS_left L one (x,[]) _ _)) (Nat.le_trans (comS_right L one (hdW v,y) _ _) (comS_right L one (y,[]) _ _))
 rw[List.length_cons,List.length_cons]
 split at h1 <;> omega
theorem pair_same{L:List (Wd × Wd)}{u v:List Wd}{k:Nat}(hn:L.Nodup)(x:Wd)(hu:∀ w ∈ u,w ≠ [])(hv:∀ w ∈ v,w ≠ [])(hL:(x,[]) ∈ L)(hL2:(hdW v,x) ∈ L)(h:pairOk L u v k):pairOk L (x :: u) (x :: v) k:=by
 unfold pairOk at h ⊢;have h1:=end_in hu hv hn;have h3:comS L one (endP (x :: u)) (endP (x :: v))=comS L one ((hdW u,x) :: inP u) ((hdW v,x) :: inP v)+1:=comS_match one (x,[]) _ _ L hn hL;rw[h3,List.length_cons,List.length_cons]
 by_cases e:hdW u=hdW v
 ·rw[if_pos e] at h1
  rw[e,comS_match one _ _ _ L hn hL2];have:one ((hdW v,x):Wd × Wd)=1:=rfl
  omega
 ·rw[if_neg e] at h1
  have h4:comS L one (inP u) (inP v)<=comS L one ((hdW u,x) :: inP u) ((hdW v,x) :: inP v):=Nat.le_trans (comS_left L one _ _ _) (comS_right L one _ _ _);omega
theorem wordN_cons(t:Tk)(l:List Tk):wordN (t :: l)=if t.1=6 then tkeyL t :: wordN l else wordN l:=by
 unfold wordN;rw[List.filter_cons]
 by_cases h:t.1=6
 ·simp[h]
 ·simp[h]
theorem pair_price{L:List (Wd × Wd)}(hn:L.Nodup):∀ a b:List Tk,(∀ w ∈ wordN a,w ≠ [])->(∀ w ∈ wordN b,w ≠ [])->(∀ u v w,wordN b=u++w :: v->(w,[]) ∈ L/\(hdW v,w) ∈ L)->([],[]) ∈ L ->
  ∃ k,4*k<=priceR a b/\pairOk L (wordN a) (wordN b) k
 | [],[],_,_,_,h0=>⟨0,by simp[priceR],by
  unfold pairOk
  show 0+1<=comS L one [([],[])] [([],[])]+0
  rw[comS_match one _ _ _ L hn h0]
  unfold one;omega⟩
 | [],y :: b,ha,hb,hL,h0=>by
  rw[wordN_cons] at hb hL ⊢;rw[priceR]
  by_cases h6:y.1=6
  ·rw[if_pos h6] at hb hL ⊢
   obtain⟨k,h1,h2⟩:=pair_price hn [] b ha (fun w hw=>hb w (List.mem_cons_of_mem _ hw)) (fun u v w e=>hL (tkeyL y :: u) v w (by rw[e];rfl)) h0;exact⟨k+1,by simp[singleT,h6,tagT,weightK];omega,pair_ins hn _ h2⟩
  ·rw[if_neg h6] at hb hL ⊢
   obtain⟨k,h1,h2⟩:=pair_price hn [] b ha hb hL h0;exact⟨k,by omega,h2⟩
 | x :: a,[],ha,hb,hL,h0=>by
  rw[wordN_cons] at ha ⊢;rw[priceR]
  by_cases h6:x.1=6
  ·rw[if_pos h6] at ha ⊢
   obtain⟨k,h1,h2⟩:=pair_price hn a [] (fun w hw=>ha w (List.mem_cons_of_mem _ hw)) hb hL h0;exact⟨k+1,by simp[singleT,h6,tagT,weightK];omega,pair_del hn _ h2⟩
  ·rw[if_neg h6] at ha ⊢
   obtain⟨k,h1,h2⟩:=pair_price hn a [] ha hb hL h0;exact⟨k,by omega,h2⟩
 | x :: a,y :: b,ha,hb,hL,h0=>by
  have ha':∀ w ∈ wordN a,w ≠ []:=fun w hw=>ha w (by rw[wordN_cons];split;exact List.mem_cons_of_mem _ hw;exact hw)
  have hb':∀ w ∈ wordN b,w ≠ []:=fun w hw=>hb w (by rw[wordN_cons];split;exact List.mem_cons_of_mem _ hw;exact hw)
  have hL':∀ u v w,wordN b=u++w :: v->(w,[]) ∈ L/\(hdW v,w) ∈ L:=fun u v w e=>by
   by_cases h6:y.1=6
   ·exact hL (tkeyL y :: u) v w (by rw[wordN_cons,if_pos h6,e];rfl)
   ·exact hL u v w (by rw[wordN_cons,if_neg h6,e])
  rcases price_cases x y a b with e|e|⟨c,hc,e⟩ <;> rw[e]
  ·obtain⟨k,h1,h2⟩:=pair_price hn a (y :: b) ha' hb hL h0
   rw[wordN_cons x]
   by_cases h6:x.1=6
   ·rw[if_pos h6]
    exact⟨k+1,by simp[singleT,h6,tagT,weightK];omega,pair_del hn _ h2⟩
   ·rw[if_neg h6]
    exact⟨k,by omega,h2⟩
  ·obtain⟨k,h1,h2⟩:=pair_price hn (x :: a) b ha hb' hL' h0
   rw[wordN_cons y]
   by_cases h6:y.1=6
   ·rw[if_pos h6]
    exact⟨k+1,by simp[singleT,h6,tagT,weightK];omega,pair_ins hn _ h2⟩
   ·rw[if_neg h6]
    exact⟨k,by omega,h2⟩
  ·obtain⟨k,h1,h2⟩:=pair_price hn a b ha' hb' hL' h0
   rw[wordN_cons,wordN_cons]
   have hk:x.1=y.1:=by
    unfold costT at hc
    split at hc
    ·rename_i hs
     simp only[sameT,Bool.and_eq_true,beq_iff_eq] at hs;exact hs.1
    ·split at hc
     ·cases hc
     ·rename_i hne
      simpa using hne
   by_cases h6:y.1=6
   ·rw[hk,if_pos h6,if_pos h6]
    by_cases hkey:tkeyL x=tkeyL y
    ·have hl:=hL [] (wordN b) (tkeyL y) (by rw[wordN_cons,if_pos h6];rfl)
     rw[hkey];exact⟨k,by omega,pair_same hn _ ha' hb' hl.1 hl.2 h2⟩
    ·have hc4:c=4:=by
      unfold costT at hc
      split at hc
      ·rename_i hs
       exact absurd (by
        simp only[sameT,Bool.and_eq_true,beq_iff_eq] at hs
        unfold tkeyL;rw[hs.1,hs.2]) hkey
      ·rw[if_neg (by simp[hk]),if_pos (hk.trans h6)] at hc
       first|rw[if_neg hkey] at hc|skip
       exact(Option.some.inj hc).symm
     exact⟨k+1,by omega,pair_sub hn _ _ ha' hb' h2⟩
   ·rw[hk,if_neg h6,if_neg h6]
    exact⟨k,by omega,h2⟩
theorem comS_perm{C:Type}[BEq C][LawfulBEq C](L:List C)(g:C->Nat){A A' B B':List C}(hA:A.Perm A')(hB:B.Perm B'):comS L g A B=comS L g A' B':=by
 unfold comS;congr 1;refine List.map_congr_left fun c _=>?_
 rw[hA.count_eq,hB.count_eq]
def gW(c:Cl):Nat:=if tagT c.1 then 0 else weightK c.1
def gT(c:Cl):Nat:=if tagT c.1 then 1 else 0
theorem save_split(A B:List Cl):∀ L:List Cl,comS L saveG A B=comS L gW A B+2*comS L gT A B
 | []=>rfl
 | c :: L=>by
  rw[comS_cons,comS_cons,comS_cons,save_split A B L];unfold saveG gW gT
  split <;> omega
def tgcL(l:List Tk):List Cl:=(l.filter fun t=>tagT t.1).map fun t=>(t.1,t.2.1)
theorem tgcL_filter(l:List Tk):tgcL l=(clsL l).filter fun c=>tagT c.1:=by
 induction l with
 | nil=>rfl
 | cons t l ih=>
  rw[clsL_cons];unfold tgcL at ih ⊢;rw[List.filter_cons];cases h:clsT t with
  | none=>rw[(cls_none h).2];exact ih
  | some c=>
   simp only[];rw[List.filter_cons,cls_kind h]
   by_cases ht:tagT t.1=true
   ·rw[if_pos ht,if_pos ht,List.map_cons,ih]
    congr 1;unfold clsT at h
    split at h
    ·rename_i hs
     exfalso;simp only[subK,tagT,Bool.or_eq_true,beq_iff_eq] at hs ht;omega
    ·first|exact Option.some.inj h|(rw[if_pos ht] at h;exact Option.some.inj h)
   ·rw[if_neg ht,if_neg ht,ih]
def onceL{C:Type}[DecidableEq C](l:List C):List C:=l.foldl (fun o x=>if x ∈ o then o else o++[x]) []
theorem once_snoc{C:Type}[DecidableEq C](l:List C)(x:C):onceL (l++[x])=if x ∈ onceL l then onceL l else onceL l++[x]:=by
 unfold onceL;rw[List.foldl_append];rfl
theorem once_fold{C:Type}[DecidableEq C]:∀ l o:List C,o.Nodup->(l.foldl (fun o x=>if x ∈ o then o else o++[x]) o).Nodup/\∀ x,x ∈ l.foldl (fun o x=>if x ∈ o then o else o++[x]) o ↔ x ∈ o∨x ∈ l
 | [],o,h=>⟨h,fun x=>by simp⟩
 | a :: l,o,h=>by
  rw[List.foldl_cons]
  by_cases hm:a ∈ o
  ·rw[if_pos hm]
   obtain⟨h1,h2⟩:=once_fold l o h;refine⟨h1,fun x=>?_⟩;rw[h2 x,List.mem_cons];exact⟨fun hx=>hx.imp id .inr,fun hx=>hx.elim .inl fun hx=>hx.elim (fun e=>.inl (e ▸ hm)) .inr⟩
  ·rw[if_neg hm]
   obtain⟨h1,h2⟩:=once_fold l (o++[a]) (List.nodup_append.2 ⟨h,by simp,fun x hx y hy=>by rw[List.mem_singleton.1 hy];rintro rfl;exact hm hx⟩);refine⟨h1,fun x=>?_⟩;rw[h2 x,List.mem_cons,List.mem_append,List.mem_singleton,or_assoc]
theorem once_both{C:Type}[DecidableEq C](l:List C):(onceL l).Nodup/\∀ x,x ∈ onceL l ↔ x ∈ l:=by
 obtain⟨h1,h2⟩:=once_fold l [] List.nodup_nil;exact⟨h1,fun x=>by rw[onceL,h2 x];simp⟩
def gapN(x y:Nat):Nat:=max x y-min x y
def surplusL(a b:List Tk):Nat:=((onceL (tgcL a++tgcL b)).map fun c=>2*gapN ((tgcL a).count c) ((tgcL b).count c)).sum
def distL(a b:List Tk):Nat:=priceR a.reverse b.reverse+surplusL a b
theorem gap_sum(A B:List Cl):∀ K:List Cl,(K.map fun c=>2*gapN (A.count c) (B.count c)).sum+4*comS K one A B=2*comS K one A A+2*comS K one B B
 | []=>rfl
 | c :: K=>by
  have ih:=gap_sum A B K;rw[List.map_cons,List.sum_cons,comS_cons,comS_cons,comS_cons];unfold gapN one at *;omega
theorem com_self(K A:List Cl)(hn:K.Nodup)(h:∀ c ∈ A,c ∈ K):comS K one A A=A.length:=by
 induction A with
 | nil=>
  clear hn h
  induction K with
  | nil=>rfl
  | cons c K ih=>rw[comS_cons,ih];rfl
 | cons x A ih=>
  rw[comS_match one x A A K hn (h x (List.mem_cons_self ..)),ih fun c hc=>h c (List.mem_cons_of_mem _ hc)];rfl
theorem clsL_reverse(l:List Tk):clsL l.reverse=(clsL l).reverse:=by unfold clsL;rw[List.filterMap_reverse]
theorem nontagW_reverse(l:List Cl):nontagW l.reverse=nontagW l:=by
 unfold nontagW;rw[List.filter_reverse,List.map_reverse,List.sum_reverse]
theorem tagN_reverse(l:List Cl):tagN l.reverse=tagN l:=by
 unfold tagN;rw[List.filter_reverse,List.length_reverse]
theorem bag_dist(a b:List Tk){L:List Cl}(hn:L.Nodup)(hc:∀ c ∈ clsL b,c ∈ L) :
  max (nontagW (clsL a)) (nontagW (clsL b))+3*tagN (clsL a)+3*tagN (clsL b)<=comS L gW (clsL a) (clsL b)+6*comS L gT (clsL a) (clsL b)+distL a b:=by
 have h1:=bag_price hn a.reverse b.reverse fun y hy k hk=>hc k (List.mem_filterMap.2 ⟨y,List.mem_reverse.1 hy,hk⟩)
 unfold bagOk at h1;rw[clsL_reverse,clsL_reverse,nontagW_reverse,nontagW_reverse,tagN_reverse,tagN_reverse,comS_perm L saveG (List.reverse_perm _) (List.reverse_perm _),save_split] at h1;obtain⟨hk1,hk2⟩:=once_both (tgcL a++tgcL b);have h2:=gap_sum (tgcL a) (tgcL b) (onceL (tgcL a++tgcL b));rw[com_self _ (tgcL a) hk1 fun c h=>(hk2 c).2 (List.mem_append_left _ h),com_self _ (tgcL b) hk1 fun c h=>(hk2 c).2 (List.mem_append_right _ h)] at h2;have h3:(tgcL a).length=tagN (clsL a):=by rw[tgcL_filter];rfl
 have h4:(tgcL b).length=tagN (clsL b):=by rw[tgcL_filter];rfl
 have h5:comS (onceL (tgcL a++tgcL b)) one (tgcL a) (tgcL b)=comS L one (tgcL a) (tgcL b):=
  comS_cover one _ _ hk1 hn (fun c h=>(hk2 c).2 (List.mem_append_right _ h)) fun c h=>hc c (by rw[tgcL_filter] at h;exact(List.mem_filter.1 h).1)
 have h6:∀ M:List Cl,comS M one (tgcL a) (tgcL b)<=comS M gT (clsL a) (clsL b):=by
  intro M
  induction M with
  | nil=>exact Nat.le_refl _
  | cons c M ih=>
   rw[comS_cons,comS_cons];refine Nat.add_le_add ?_ ih;rw[tgcL_filter,tgcL_filter]
   by_cases ht:tagT c.1=true
   ·rw[List.count_filter (by simpa using ht),List.count_filter (by simpa using ht)]
    unfold gT one;rw[if_pos ht];exact Nat.le_refl _
   ·rw[List.count_eq_zero_of_not_mem fun hm=>ht (by simpa using (List.mem_filter.1 hm).2)]
    simp
 have h7:=h6 L;have h8:distL a b=priceR a.reverse b.reverse+((onceL (tgcL a++tgcL b)).map fun c=>2*gapN ((tgcL a).count c) ((tgcL b).count c)).sum:=rfl;omega
def prsF:Wd->List Wd->List (Wd × Wd)
 | p,[]=>[(p,[])]
 | p,w :: r=>(p,w) :: prsF w r
theorem prs_len:∀ (p:Wd) (r:List Wd),(prsF p r).length=r.length+1
 | _,[]=>rfl
 | p,w :: r=>by rw[prsF,List.length_cons,prs_len w r];rfl
theorem prs_end:∀ (r u:List Wd),(prsF (hdW u) r++inP u).Perm (endP (r.reverse++u))
 | [],u=>by simp[prsF,endP]
 | w :: r,u=>by
  have ih:=prs_end r (w :: u);rw[List.reverse_cons,List.append_assoc];refine List.Perm.trans ?_ ih
  show (((hdW u,w) :: prsF w r)++inP u).Perm (prsF w r++((hdW u,w) :: inP u))
  exact(List.perm_middle).symm
theorem word_reverse(l:List Tk):wordN l.reverse=(wordN l).reverse:=by unfold wordN;rw[List.filter_reverse,List.map_reverse]
theorem pair_dist(a b:List Tk)(ha:∀ w ∈ wordN a,w ≠ [])(hb:∀ w ∈ wordN b,w ≠ []){L:List (Wd × Wd)}(hn:L.Nodup)(hc:∀ p ∈ prsF [] (wordN b),p ∈ L) :
  4*((max (wordN a).length (wordN b).length+1-comS L one (prsF [] (wordN a)) (prsF [] (wordN b))+1) / 2)<=distL a b:=by
 let W:List Wd:=[] :: wordN b
 let M:List (Wd × Wd):=onceL (W.flatMap fun x=>W.map fun y=>(x,y))
 have hM:∀ x y,x ∈ W->y ∈ W->(x,y) ∈ M:=fun x y hx hy=>((once_both _).2 _).2 (List.mem_flatMap.2 ⟨x,hx,List.mem_map.2 ⟨y,hy,rfl⟩⟩)
 have h0:([]:Wd) ∈ W:=List.mem_cons_self ..;have hw:∀ w ∈ wordN b,w ∈ W:=fun w h=>List.mem_cons_of_mem _ h
 obtain⟨k,h1,h2⟩:=pair_price (L:=M) (once_both _).1 a.reverse b.reverse (fun w h=>ha w (by rw[word_reverse] at h;exact List.mem_reverse.1 h)) (fun w h=>hb w (by rw[word_reverse] at h;exact List.mem_reverse.1 h)) (fun u v w e=>by
  rw[word_reverse] at e;have hin:∀ x ∈ u++w :: v,x ∈ W:=fun x hx=>hw x (List.mem_reverse.1 (by rw[e];exact hx))
  refine⟨hM _ _ (hin w (by simp)) h0,hM _ _ ?_ (hin w (by simp))⟩;cases v with
  | nil=>exact h0
  | cons z v=>exact hin z (by simp)) (hM _ _ h0 h0)
 unfold pairOk at h2
 have pa:(endP (wordN a.reverse)).Perm (prsF [] (wordN a)):=by
  have:=prs_end (wordN a) []
  rw[word_reverse];simp only[List.append_nil,inP] at this;exact this.symm
 have pb:(endP (wordN b.reverse)).Perm (prsF [] (wordN b)):=by
  have:=prs_end (wordN b) []
  rw[word_reverse];simp only[List.append_nil,inP] at this;exact this.symm
 have hin:∀ (r:List Wd) (p:Wd),p ∈ W->(∀ x ∈ r,x ∈ W)->∀ q ∈ prsF p r,q ∈ M:=by
  intro r
  induction r with
  | nil=>intro p hp _ q hq;rw[List.mem_singleton.1 hq];exact hM _ _ hp h0
  | cons w r ih=>
   intro p hp hr q hq;rcases List.mem_cons.1 hq with rfl|hq
   ·exact hM _ _ hp (hr w (List.mem_cons_self ..))
   ·exact ih w (hr w (List.mem_cons_self ..)) (fun x hx=>hr x (List.mem_cons_of_mem _ hx)) q hq
 rw[comS_perm M one pa pb,comS_cover one _ _ (once_both _).1 hn (hin _ _ h0 hw) hc,word_reverse,word_reverse,List.length_reverse,List.length_reverse] at h2;have h3:priceR a.reverse b.reverse<=distL a b:=Nat.le_add_right _ _;omega
def percentL(a b:List Tk):Nat:=if max (totalT a) (totalT b)=0 then 100 else 100*(max (totalT a) (totalT b)-distL a b) / max (totalT a) (totalT b)
theorem percent_allowed{a b:List Tk}(h:1<=percentL a b)(h0:1<=max (totalT a) (totalT b)):distL a b<=max (totalT a) (totalT b)*99 / 100:=by
 unfold percentL at h;rw[if_neg (by omega)] at h;have h1:=(Nat.le_div_iff_mul_le (by omega)).1 h;omega
end St
end Go.Proofs.YtcfhfdphoidaeaaGreatDoor
namespace Go.Proofs.YtcfhfdphoidaeaaGreatDoor
namespace St
def clsN(n:Nat):Int:=if n=9∨n=10∨n=13∨n=32 then 2 else if n<32∨n=127 then 1 else if 48<=n/\n<=57 then 3 else if (97<=n/\n<=122)∨(65<=n/\n<=90)∨128<=n then 4 else 5
def clsB(c:UInt8):Int:=clsN c.toNat
def wordlyB(c:UInt8):Bool:=clsB c==4 || clsB c==3
def digitB(c:UInt8):Bool:=clsB c==3
def jnL(p:UInt8->Bool)(a b:UInt8):List UInt8->Nat
 | []=>0
 | [c]=>if p c then 1 else 0
 | c :: d :: r=>if p c then 1+jnL p a b (d :: r) else if (c=a∨c=b)/\p d=true then 2+jnL p a b r else 0
def spL(s:List UInt8):Nat:=(s.takeWhile fun c=>clsB c==2).length
def nextL:List UInt8->Int × Nat
 | []=>(9,1)
 | c :: r=>if clsB c=4 then (6,1+jnL wordlyB 39 45 r) else if clsB c=3 then (7,1+jnL digitB 46 44 r) else if clsB c=2 then (8,1+spL r) else (9,1)
def tokT:Nat->List UInt8->List Tk
 | 0,_=>[]
 | _+1,[]=>[]
 | f+1,c :: r=>((nextL (c :: r)).1,(c :: r).take (nextL (c :: r)).2,0) :: tokT f ((c :: r).drop (nextL (c :: r)).2)
def tokI(x:Tk):List Tk:=if x.1=2∨x.1=3∨x.1=4∨x.1=5 then [x] else if x.1=1 then tokT x.2.1.length x.2.1 else []
def tokL(f:List Tk):List Tk:=f.flatMap tokI
theorem jn_le(p:UInt8->Bool)(a b:UInt8):∀ s:List UInt8,jnL p a b s<=s.length
 | []=>by simp[jnL]
 | [c]=>by rw[jnL];split <;> simp
 | c :: d :: r=>by
  have h1:=jn_le p a b (d :: r);have h2:=jn_le p a b r;rw[jnL];simp only[List.length_cons] at *
  split
  ·omega
  ·split <;> omega
theorem sp_le(s:List UInt8):spL s<=s.length:=(List.takeWhile_prefix _).length_le
theorem next_le(c:UInt8)(r:List UInt8):1<=(nextL (c :: r)).2/\(nextL (c :: r)).2<=r.length+1:=by
 have h1:=jn_le wordlyB 39 45 r;have h2:=jn_le digitB 46 44 r;have h3:=sp_le r;simp only[nextL]
 split
 ·exact⟨by simp,by simp;omega⟩
 ·split
  ·exact⟨by simp,by simp;omega⟩
  ·split
   ·exact⟨by simp,by simp;omega⟩
   ·exact⟨by simp,by simp⟩
theorem next_kind(s:List UInt8):(nextL s).1=6∨(nextL s).1=7∨(nextL s).1=8∨(nextL s).1=9:=by
 unfold nextL
 split
 ·simp
 ·split
  ·simp
  ·split
   ·simp
   ·split <;> simp
theorem tokT_more:∀ (s:List UInt8) (f g:Nat),s.length<=f->s.length<=g->tokT f s=tokT g s:=by
 have key:∀ (n:Nat) (s:List UInt8),s.length<=n->∀ f g:Nat,s.length<=f->s.length<=g->tokT f s=tokT g s:=by
  intro n
  induction n with
  | zero=>
   intro s h f g _ _;have:s=[]:=List.length_eq_zero_iff.1 (by omega)
   subst this;cases f <;> cases g <;> rfl
  | succ n ih=>
   intro s h f g hf hg;cases s with
   | nil=>cases f <;> cases g <;> rfl
   | cons c r=>
    simp only[List.length_cons] at h hf hg;obtain⟨h1,h2⟩:=next_le c r;cases f with
    | zero=>omega
    | succ f=>
     cases g with
     | zero=>omega
     | succ g=>
      rw[tokT,tokT];congr 1;refine ih _ ?_ f g ?_ ?_ <;> simp only[List.length_drop,List.length_cons] <;> omega
 exact fun s f g=>key s.length s (Nat.le_refl _) f g
theorem tokT_cons(c:UInt8)(r:List UInt8):tokT (r.length+1) (c :: r)=((nextL (c :: r)).1,(c :: r).take (nextL (c :: r)).2,0) :: tokT ((c :: r).drop (nextL (c :: r)).2).length ((c :: r).drop (nextL (c :: r)).2):=by
 obtain⟨h1,h2⟩:=next_le c r;rw[tokT];congr 1;refine tokT_more _ _ _ ?_ (Nat.le_refl _);simp only[List.length_drop,List.length_cons];omega
theorem tokT_len:∀ (f:Nat) (s:List UInt8),(tokT f s).length<=s.length
 | 0,_=>by simp[tokT]
 | _+1,[]=>by simp[tokT]
 | f+1,c :: r=>by
  obtain⟨h1,h2⟩:=next_le c r;have:=tokT_len f ((c :: r).drop (nextL (c :: r)).2)
  simp only[List.length_drop,List.length_cons] at this;rw[tokT,List.length_cons,List.length_cons];omega
theorem tokT_ok:∀ (f:Nat) (s:List UInt8),∀ t ∈ tokT f s,(t.1=6∨t.1=7∨t.1=8∨t.1=9)/\t.2.1 ≠ []
 | 0,_,t,h=>by simp[tokT] at h
 | _+1,[],t,h=>by simp[tokT] at h
 | f+1,c :: r,t,h=>by
  rw[tokT] at h;rcases List.mem_cons.1 h with rfl|h
  ·refine⟨next_kind _,?_⟩
   have:=(next_le c r).1
   intro e;have h0:((c :: r).take (nextL (c :: r)).2).length=0:=by rw[show (c :: r).take (nextL (c :: r)).2=[] from e];rfl
   rw[List.length_take,List.length_cons] at h0;omega
  ·exact tokT_ok f _ t h
theorem tokL_word(f:List Tk):∀ w ∈ wordN (tokL f),w ≠ []:=by
 intro w hw;unfold wordN at hw;obtain⟨t,ht,rfl⟩:=List.mem_map.1 hw;obtain⟨ht1,ht2⟩:=List.mem_filter.1 ht;have h6:t.1=6:=by simpa using ht2
 obtain⟨x,_,hx⟩:=List.mem_flatMap.1 ht1;unfold tokI at hx
 split at hx
 ·rename_i hk
  rw[List.mem_singleton.1 hx] at h6;omega
 ·split at hx
  ·have:=(tokT_ok _ _ t hx).2
   unfold tkeyL;rw[if_pos h6];unfold lowL;intro e;exact this (List.map_eq_nil_iff.1 e)
  ·cases hx
theorem tokL_len:∀ f:List Tk,(tokL f).length<=f.length+(f.map fun x=>x.2.1.length).sum
 | []=>by simp[tokL]
 | x :: f=>by
  have ih:=tokL_len f;unfold tokL at ih ⊢;rw[List.flatMap_cons,List.length_append,List.map_cons,List.sum_cons,List.length_cons]
  have:(tokI x).length<=1+x.2.1.length:=by
   unfold tokI
   split
   ·simp
   ·split
    ·have:=tokT_len x.2.1.length x.2.1;omega
    ·simp
  omega
end St
end Go.Proofs.YtcfhfdphoidaeaaGreatDoor
namespace Go.Proofs.YtcfhfdphoidaeaaGreatDoor
open Go.RowKit
theorem cls_of(n:Nat)(w:World)(hn:n<256):Calls Tryz.prog 103 #[.int .u8 (n:Int)] w fun e w'=>e=.returned (.int .i64 (St.clsN n))/\Und w w':=by
 by_cases a:n=9∨n=10∨n=13∨n=32
 ·rcases a with rfl|rfl|rfl|rfl <;>
  ·go_enter Tryz.func103,Tryz.ntmps103
   go_wp2;go_ret;exact⟨rfl,(by apply_rules[uUe,uUa,uUb,uUc,uUd])⟩
 ·simp only[not_or] at a
  obtain⟨a1,a2,a3,a4⟩:=a;have e1:((n:Int)==9)=false:=by simp;omega
  have e2:((n:Int)==10)=false:=by simp;omega
  have e3:((n:Int)==13)=false:=by simp;omega
  have e4:((n:Int)==32)=false:=by simp;omega
  by_cases b:n<32
  ·have hcl:St.clsN n=1:=by unfold St.clsN;rw[if_neg (by omega),if_pos (by omega)]
   rw[hcl];have d1:(n:Int)<32:=by omega
   clear hcl a1 a2 a3 a4 b;go_enter Tryz.func103,Tryz.ntmps103;go_wp2;go_ret;exact⟨rfl,(by apply_rules[uUe,uUa,uUb,uUc,uUd])⟩
  ·by_cases b2:n=127
   ·subst b2
    go_enter Tryz.func103,Tryz.ntmps103;go_wp2;go_ret;exact⟨rfl,(by apply_rules[uUe,uUa,uUb,uUc,uUd])⟩
   ·have d1:¬ (n:Int)<32:=by omega
    have e5:((n:Int)==127)=false:=by simp;omega
    rcases(show (48<=n/\n<=57)∨(97<=n/\n<=122)∨(65<=n/\n<=90)∨128<=n∨n<48∨(58<=n/\n<65)∨(91<=n/\n<97)∨(123<=n/\n<128) by omega) with c|c|c|c|c|c|c|c
    ·have hcl:St.clsN n=3:=by unfold St.clsN;rw[if_neg (by omega),if_neg (by omega),if_pos (by omega)]
     rw[hcl];have y1:48<=(n:Int):=by omega
     have y2:(n:Int)<=57:=by omega
     clear hcl a1 a2 a3 a4 b b2 c;go_enter Tryz.func103,Tryz.ntmps103;go_wp2;go_ret;exact⟨rfl,(by apply_rules[uUe,uUa,uUb,uUc,uUd])⟩
    ·have hcl:St.clsN n=4:=by unfold St.clsN;rw[if_neg (by omega),if_neg (by omega),if_neg (by omega),if_pos (by omega)]
     rw[hcl];have y1:48<=(n:Int):=by omega
     have y2:¬ (n:Int)<=57:=by omega
     have y3:97<=(n:Int):=by omega
     have y4:(n:Int)<=122:=by omega
     clear hcl a1 a2 a3 a4 b b2 c;go_enter Tryz.func103,Tryz.ntmps103;go_wp2;go_ret;exact⟨rfl,(by apply_rules[uUe,uUa,uUb,uUc,uUd])⟩
    ·have hcl:St.clsN n=4:=by unfold St.clsN;rw[if_neg (by omega),if_neg (by omega),if_neg (by omega),if_pos (by omega)]
     rw[hcl];have y1:48<=(n:Int):=by omega
     have y2:¬ (n:Int)<=57:=by omega
     have y3:¬ 97<=(n:Int):=by omega
     have y5:65<=(n:Int):=by omega
     have y6:(n:Int)<=90:=by omega
     clear hcl a1 a2 a3 a4 b b2 c;go_enter Tryz.func103,Tryz.ntmps103;go_wp2;go_ret;exact⟨rfl,(by apply_rules[uUe,uUa,uUb,uUc,uUd])⟩
    ·have hcl:St.clsN n=4:=by unfold St.clsN;rw[if_neg (by omega),if_neg (by omega),if_neg (by omega),if_pos (by omega)]
     rw[hcl];have y1:48<=(n:Int):=by omega
     have y2:¬ (n:Int)<=57:=by omega
     have y3:97<=(n:Int):=by omega
     have y4:¬ (n:Int)<=122:=by omega
     have y5:65<=(n:Int):=by omega
     have y6:¬ (n:Int)<=90:=by omega
     have y7:128<=(n:Int):=by omega
     clear hcl a1 a2 a3 a4 b b2 c;go_enter Tryz.func103,Tryz.ntmps103;go_wp2;go_ret;exact⟨rfl,(by apply_rules[uUe,uUa,uUb,uUc,uUd])⟩
    ·have hcl:St.clsN n=5:=by unfold St.clsN;rw[if_neg (by omega),if_neg (by omega),if_neg (by omega),if_neg (by omega)]
     rw[hcl];have y1:¬ 48<=(n:Int):=by omega
     have y3:¬ 97<=(n:Int):=by omega
     have y5:¬ 65<=(n:Int):=by omega
     have y7:¬ 128<=(n:Int):=by omega
     clear hcl a1 a2 a3 a4 b b2 c;go_enter Tryz.func103,Tryz.ntmps103;go_wp2;go_ret;exact⟨rfl,(by apply_rules[uUe,uUa,uUb,uUc,uUd])⟩
    ·have hcl:St.clsN n=5:=by unfold St.clsN;rw[if_neg (by omega),if_neg (by omega),if_neg (by omega),if_neg (by omega)]
     rw[hcl];have y1:48<=(n:Int):=by omega
     have y2:¬ (n:Int)<=57:=by omega
     have y3:¬ 97<=(n:Int):=by omega
     have y5:¬ 65<=(n:Int):=by omega
     have y7:¬ 128<=(n:Int):=by omega
     clear hcl a1 a2 a3 a4 b b2 c;go_enter Tryz.func103,Tryz.ntmps103;go_wp2;go_ret;exact⟨rfl,(by apply_rules[uUe,uUa,uUb,uUc,uUd])⟩
    ·have hcl:St.clsN n=5:=by unfold St.clsN;rw[if_neg (by omega),if_neg (by omega),if_neg (by omega),if_neg (by omega)]
     rw[hcl];have y1:48<=(n:Int):=by omega
     have y2:¬ (n:Int)<=57:=by omega
     have y3:¬ 97<=(n:Int):=by omega
     have y5:65<=(n:Int):=by omega
     have y6:¬ (n:Int)<=90:=by omega
     have y7:¬ 128<=(n:Int):=by omega
     clear hcl a1 a2 a3 a4 b b2 c;go_enter Tryz.func103,Tryz.ntmps103;go_wp2;go_ret;exact⟨rfl,(by apply_rules[uUe,uUa,uUb,uUc,uUd])⟩
    ·have hcl:St.clsN n=5:=by unfold St.clsN;rw[if_neg (by omega),if_neg (by omega),if_neg (by omega),if_neg (by omega)]
     rw[hcl];have y1:48<=(n:Int):=by omega
     have y2:¬ (n:Int)<=57:=by omega
     have y3:97<=(n:Int):=by omega
     have y4:¬ (n:Int)<=122:=by omega
     have y5:65<=(n:Int):=by omega
     have y6:¬ (n:Int)<=90:=by omega
     have y7:¬ 128<=(n:Int):=by omega
     clear hcl a1 a2 a3 a4 b b2 c;go_enter Tryz.func103,Tryz.ntmps103;go_wp2;go_ret;exact⟨rfl,(by apply_rules[uUe,uUa,uUb,uUc,uUd])⟩
theorem of_any(c:UInt8)(w:World):Calls Tryz.prog 103 #[.int .u8 (c.toNat:Int)] w fun e w'=>e=.returned (.int .i64 (St.clsB c))/\Und w w':=cls_of c.toNat w c.toNat_lt
theorem cls_val(c:UInt8):St.clsB c=1∨St.clsB c=2∨St.clsB c=3∨St.clsB c=4∨St.clsB c=5:=by
 unfold St.clsB St.clsN
 split
 ·simp
 ·split
  ·simp
  ·split
   ·simp
   ·split <;> simp
theorem wordly_any(c:UInt8)(w:World):Calls Tryz.prog 105 #[.int .u8 (c.toNat:Int)] w fun e w'=>e=.returned (.bool (St.wordlyB c))/\Und w w':=by
 have h:=of_any c;unfold St.wordlyB;rcases cls_val c with e|e|e|e|e <;> rw[e] at h ⊢ <;>
 ·go_enter Tryz.func105,Tryz.ntmps105
  go_wp2_with (go_at_call 103;refine(h _).mono ?_;rintro e w' ⟨rfl,X,rfl⟩);go_ret;exact⟨rfl,(by apply_rules[uUe,uUa,uUb,uUc,uUd])⟩
theorem digit_any(c:UInt8)(w:World):Calls Tryz.prog 106 #[.int .u8 (c.toNat:Int)] w fun e w'=>e=.returned (.bool (St.digitB c))/\Und w w':=by
 have h:=of_any c;unfold St.digitB;rcases cls_val c with e|e|e|e|e <;> rw[e] at h ⊢ <;>
 ·go_enter Tryz.func106,Tryz.ntmps106
  go_wp2_with (go_at_call 103;refine(h _).mono ?_;rintro e w' ⟨rfl,X,rfl⟩);go_ret;exact⟨rfl,(by apply_rules[uUe,uUa,uUb,uUc,uUd])⟩
end Go.Proofs.YtcfhfdphoidaeaaGreatDoor
