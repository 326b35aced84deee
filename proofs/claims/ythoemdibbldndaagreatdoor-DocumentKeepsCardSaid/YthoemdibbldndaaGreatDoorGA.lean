/- The contracts of IsName of package class and of its reference. -/
import Derived.Test.YthoemdibbldndaaGreatDoorRows
import Derived.Test.YthoemdibbldndaaGreatDoorUnder
import Derived.Test.YthoemdibbldndaaGreatDoorBas
import Derived.Outline
import Derived.Deep.RegionLaw
import Derived.Lib.Builder
import Derived.Lib.UnsafeStr
import Derived.Laws.BytesArg
import Derived.Laws.Rows
import Derived.OwnWalk
import Derived.IntWalk
import Derived.WalkSpells
import Derived.Lib.Strings
import Derived.Lib.IndexBytes
set_option linter.all false
set_option maxHeartbeats 0
open Go.Value renaming int->Yh,string->Yi,slice->Yj,bool->Yk
open Go.IntKind renaming i64->Yn
open Go.Obj renaming cells->Yo
open Go renaming World->Ys
namespace Go.Proofs.YthoemdibbldndaaGreatDoor
open Go.RowKit
section
def Og(s:ByteArray)(lo:Nat)(i:Value):Prop:=∃k:Nat,lo<=k/\k<=s.size/\i=Yh Yn k/\St.aE s.1.1=(s.1.1.drop k).all St.fi
theorem kG(s:ByteArray)(w:Ys)(hs:s.size<=9223372036854775807):Calls Tryz.prog 149 #[Yi s] w λe w'=>e=.returned (Yk (St.aE s.1.1))/\w=w':=by
 by_cases h0:s.size=0
 ·rw[St.xN s h0];have z:(s.size:Int)<1:=by omega
  clear h0;go_enter Tryz.func149,Tryz.ntmps149;go_wp2;go_ret;exact⟨rfl,rfl⟩
 by_cases h1:24<s.size
 ·rw[St.AH s h1];have z:¬(s.size:Int)<1:=by omega
  have z1:24<(s.size:Int):=by omega
  clear h0;go_enter Tryz.func149,Tryz.ntmps149;go_wp2;go_ret;exact⟨rfl,rfl⟩
 have hp:0<s.size:=by omega
 have z:¬(s.size:Int)<1:=by omega
 have z1:¬24<(s.size:Int):=by omega
 by_cases hc:97<=s[0].toNat/\s[0].toNat<=122
 ·have z2:¬(s[0].toNat:Int)<97:=by omega
  have z3:¬122<(s[0].toNat:Int):=by omega
  have hrest:=St.AI s hp (by omega) (by unfold St.ls;exact decide_eq_true hc);have HR:=aa hrest;clear hrest h0 h1 hc;go_enter Tryz.func149,Tryz.ntmps149;go_wp2;go_loop [3] (λi=>Og s 1 i) (λi=>s.size-(intOf i).toNat)
  case atStart=>exact⟨1,by omega,by omega,rfl,HR.out⟩
  case round=>
   obtain⟨k,hk1,hk,rfl,H⟩:=hrel;have HH:=aa H;clear H
   by_cases hlt:k<s.size
   ·have hstep:=aa (St.Cj s k hlt);rcases(show(97<=s[k].toNat/\s[k].toNat<=122)\/(48<=s[k].toNat/\s[k].toNat<=57)\/s[k].toNat=45\/(s[k].toNat<48/\s[k].toNat≠45)\/(58<=s[k].toNat/\s[k].toNat<97)\/122<s[k].toNat by omega)with c|c|c|c|c|c
    ·have HC:=aa c;have y1:97<=(s[k].toNat:Int):=by omega
     have y2:(s[k].toNat:Int)<=122:=by omega
     clear c;go_wp2;go_round
     case rel=>exact⟨k+1,by omega,by omega,by go_num,by rw[HH.out,hstep.out];have:=HC.out;simp[St.fi,this]⟩
     case measure=>simp[intOf];omega
    ·have HC:=aa c;have y1:48<=(s[k].toNat:Int):=by omega
     have y2:(s[k].toNat:Int)<=57:=by omega
     clear c;go_wp2;go_round
     case rel=>exact⟨k+1,by omega,by omega,by go_num,by rw[HH.out,hstep.out];have:=HC.out;simp[St.fi,this]⟩
     case measure=>simp[intOf];omega
    ·have HC:=aa c;have y1:¬48<=(s[k].toNat:Int):=by omega
     have y2:¬97<=(s[k].toNat:Int):=by omega
     have y3:((s[k].toNat:Int)==45)=true:=by simp;omega
     clear c;go_wp2;go_round
     case rel=>exact⟨k+1,by omega,by omega,by go_num,by rw[HH.out,hstep.out];have:=HC.out;simp[St.fi,this]⟩
     case measure=>simp[intOf];omega
    ·have HC:=aa c;have y1:¬48<=(s[k].toNat:Int):=by omega
     have y2:¬97<=(s[k].toNat:Int):=by omega
     have y3:((s[k].toNat:Int)==45)=false:=by simp;omega
     clear c;go_wp2;go_ret;exact⟨az (by rw[HH.out,hstep.out];have e:St.fi s[k]=false:=decide_eq_false (by have:=HC.out;omega);rw[e];rfl),rfl⟩
    ·have HC:=aa c;have y1:48<=(s[k].toNat:Int):=by omega
     have y2:¬97<=(s[k].toNat:Int):=by omega
     have y4:¬(s[k].toNat:Int)<=57:=by omega
     have y3:((s[k].toNat:Int)==45)=false:=by simp;omega
     clear c;go_wp2;go_ret;exact⟨az (by rw[HH.out,hstep.out];have e:St.fi s[k]=false:=decide_eq_false (by have:=HC.out;omega);rw[e];rfl),rfl⟩
    have HC:=aa c;have y1:97<=(s[k].toNat:Int):=by omega
    have y2:¬(s[k].toNat:Int)<=122:=by omega
    have y4:¬(s[k].toNat:Int)<=57:=by omega
    have y5:48<=(s[k].toNat:Int):=by omega
    have y3:((s[k].toNat:Int)==45)=false:=by simp;omega
    clear c;go_wp2;go_ret;exact⟨az (by rw[HH.out,hstep.out];have e:St.fi s[k]=false:=decide_eq_false (by have:=HC.out;omega);rw[e];rfl),rfl⟩
   obtain rfl:k=s.size:=by omega
   clear hlt;go_wp2;go_ret;exact⟨az (by rw[HH.out,St.fN s _ (Nat.le_refl _)];rfl),rfl⟩
 rw[St.AG s hp (by unfold St.ls;exact decide_eq_false hc)];rcases(show s[0].toNat<97\/(97<=s[0].toNat/\122<s[0].toNat)by omega)with c|⟨c,c'⟩
 ·have z2:(s[0].toNat:Int)<97:=by omega
  clear h0 h1 hc c;go_enter Tryz.func149,Tryz.ntmps149;go_wp2;go_ret;exact⟨rfl,rfl⟩
 have z2:¬(s[0].toNat:Int)<97:=by omega
 have z3:122<(s[0].toNat:Int):=by omega
 clear h0 h1 hc c c';go_enter Tryz.func149,Tryz.ntmps149;go_wp2;go_ret;exact⟨rfl,rfl⟩
def Lk(s:ByteArray)(i:Value):Prop:=∃k:Nat,k<=s.size/\i=Yh Yn k/\(k=0\/St.aE s.1.1=(s.1.1.drop k).all St.fi)
theorem ny(s:ByteArray)(w:Ys)(hs:s.size<=9223372036854775807):Calls Tryz.prog 177 #[Yi s] w λe w'=>e=.returned (Yk (St.aE s.1.1))/\w=w':=by
 by_cases h0:s.size=0
 ·rw[St.xN s h0];have z:(s.size:Int)<1:=by omega
  clear h0;go_enter Tryz.func177,Tryz.ntmps177;go_wp2;go_ret;exact⟨rfl,rfl⟩
 by_cases h1:24<s.size
 ·rw[St.AH s h1];have z:¬(s.size:Int)<1:=by omega
  have z1:24<(s.size:Int):=by omega
  clear h0;go_enter Tryz.func177,Tryz.ntmps177;go_wp2;go_ret;exact⟨rfl,rfl⟩
 have hp:0<s.size:=by omega
 have z:¬(s.size:Int)<1:=by omega
 have z1:¬24<(s.size:Int):=by omega
 have TJ:s.size<=24:=by omega
 clear h0 h1;go_enter Tryz.func177,Tryz.ntmps177;go_wp2;go_loop [3] (λi=>Lk s i) (λi=>s.size-(intOf i).toNat)
 case atStart=>exact⟨0,by omega,rfl,Or.inl rfl⟩
 case round=>
  obtain⟨k,hk,rfl,H⟩:=hrel
  by_cases gU:k=0
  ·subst gU;clear H
   by_cases hc:97<=s[0].toNat/\s[0].toNat<=122
   ·have z2:97<=(s[0].toNat:Int):=by omega
    have z3:(s[0].toNat:Int)<=122:=by omega
    have HR:=aa (St.AI s hp TJ (by unfold St.ls;exact decide_eq_true hc));clear hc;go_wp2;go_round
    case rel=>exact⟨1,by omega,rfl,Or.inr HR.out⟩
    case measure=>simp[intOf];omega
   have HR:=aa (St.AG s hp (by unfold St.ls;exact decide_eq_false hc));rcases(show s[0].toNat<97\/(97<=s[0].toNat/\122<s[0].toNat)by omega)with c|⟨c,c'⟩
   ·have z2:¬97<=(s[0].toNat:Int):=by omega
    clear c hc;go_wp2;go_ret;exact⟨az HR.out.symm,rfl⟩
   have z2:97<=(s[0].toNat:Int):=by omega
   have z3:¬(s[0].toNat:Int)<=122:=by omega
   clear c c' hc;go_wp2;go_ret;exact⟨az HR.out.symm,rfl⟩
  have HH:=aa (H.resolve_left gU);clear H;have hk1:0<(k:Int):=by omega
  have Xi:0<k:=by omega
  clear gU
  by_cases hlt:k<s.size
  ·have hstep:=aa (St.Cj s k hlt);rcases(show(97<=s[k].toNat/\s[k].toNat<=122)\/(48<=s[k].toNat/\s[k].toNat<=57)\/s[k].toNat=45\/(s[k].toNat<48/\s[k].toNat≠45)\/(58<=s[k].toNat/\s[k].toNat<97)\/122<s[k].toNat by omega)with c|c|c|c|c|c
   ·have HC:=aa c;have y1:97<=(s[k].toNat:Int):=by omega
    have y2:(s[k].toNat:Int)<=122:=by omega
    clear c;go_wp2;go_round
    case rel=>exact⟨k+1,by omega,by go_num,Or.inr <| by rw[HH.out,hstep.out];have:=HC.out;simp[St.fi,this]⟩
    case measure=>simp[intOf];omega
   ·have HC:=aa c;have y1:48<=(s[k].toNat:Int):=by omega
    have y2:(s[k].toNat:Int)<=57:=by omega
    clear c;go_wp2;go_round
    case rel=>exact⟨k+1,by omega,by go_num,Or.inr <| by rw[HH.out,hstep.out];have:=HC.out;simp[St.fi,this]⟩
    case measure=>simp[intOf];omega
   ·have HC:=aa c;have y1:¬48<=(s[k].toNat:Int):=by omega
    have y2:¬97<=(s[k].toNat:Int):=by omega
    have y3:((s[k].toNat:Int)==45)=true:=by simp;omega
    clear c;go_wp2;go_round
    case rel=>exact⟨k+1,by omega,by go_num,Or.inr <| by rw[HH.out,hstep.out];have:=HC.out;simp[St.fi,this]⟩
    case measure=>simp[intOf];omega
   ·have HC:=aa c;have y1:¬48<=(s[k].toNat:Int):=by omega
    have y2:¬97<=(s[k].toNat:Int):=by omega
    have y3:((s[k].toNat:Int)==45)=false:=by simp;omega
    clear c;go_wp2;go_ret;exact⟨az (by rw[HH.out,hstep.out];have e:St.fi s[k]=false:=decide_eq_false (by have:=HC.out;omega);rw[e];rfl),rfl⟩
   ·have HC:=aa c;have y1:48<=(s[k].toNat:Int):=by omega
    have y2:¬97<=(s[k].toNat:Int):=by omega
    have y4:¬(s[k].toNat:Int)<=57:=by omega
    have y3:((s[k].toNat:Int)==45)=false:=by simp;omega
    clear c;go_wp2;go_ret;exact⟨az (by rw[HH.out,hstep.out];have e:St.fi s[k]=false:=decide_eq_false (by have:=HC.out;omega);rw[e];rfl),rfl⟩
   have HC:=aa c;have y1:97<=(s[k].toNat:Int):=by omega
   have y2:¬(s[k].toNat:Int)<=122:=by omega
   have y4:¬(s[k].toNat:Int)<=57:=by omega
   have y5:48<=(s[k].toNat:Int):=by omega
   have y3:((s[k].toNat:Int)==45)=false:=by simp;omega
   clear c;go_wp2;go_ret;exact⟨az (by rw[HH.out,hstep.out];have e:St.fi s[k]=false:=decide_eq_false (by have:=HC.out;omega);rw[e];rfl),rfl⟩
  obtain rfl:k=s.size:=by omega
  clear hlt;go_wp2;go_ret;exact⟨az (by rw[HH.out,St.fN s _ (Nat.le_refl _)];rfl),rfl⟩
end
section
theorem cF{P:Program}{ops:Array Oper}{o:Oper}{a:Act}{w:Ys}{K:Act->Ys->Prop}{Q:Exit->Act->Ys->Prop}{E:Prop}
  (hg:o.guard=none) (s x:Operand) (t:TypeId) (hop:o.op=Op.call { callee:=Callee.builtin Builtin.append,args:=#[s,x],argTypes:=#[t,t] })
  (base:Nat) (e:TypeId) (i:TypeInfo) (z:Value) (size bytes:Nat) (ht:P.underlying t=some (.slice e)) (hi:P.info? e=some i) (hz:i.zero=some z)
  (hsize:i.size=size) (hby:i.bytes=bytes) (hzs:z.cells.size=size) (hsz:0<size)
  (v:Value) (n:Nat) (xs:List Value) (hs:a.eval s=v) (hown:w.ownsRow base e size v n xs)
  (ad:Addr) (m c:Nat) (news:List Value) (hx:a.eval x=Yj (some ad) m c) (hl:news.length=m*size) (hnews:∀j u,news[j]?=some u->w.cell? (ad.add j)=some u) (h1:∀u∈news,u.oneCell'=true)
  (h63:n+m<=maxLen) (hbytes:(n+m)*bytes<=140737488355328) (hbase:base<=w.1.size)
  (h:∀v' w',w'.ownsRow base e size v' (n+m) (xs++news)->w.grownBy w' v.ownBlock->(v'=Yj none 0 0 ↔ v=Yj none 0 0/\m=0)->K (a.put o.dst v') w') :
  if Region.wanted o (yielded ops a.tmps)=true then Oper.wp P o a w K Q else E:=by
 have hw:Region.wanted o (yielded ops a.tmps)=true:=by simp[Region.wanted,hg]
 rw[if_pos hw];exact wp_append_own w s x t hop base e i z size bytes ht hi hz hsize hby hzs hsz v n xs hs hown ad m c news hx hl hnews h1 h63 hbytes hbase h
theorem ac.grown{a b c:Ys}(h:ac a b){row:Option Nat}(hg:b.grownBy c row)(hr:∀g,row=some g->a.1.size<=g):ac a c:=
 ac.mk (h.below.grown hg h.below.size hr)
theorem aB{w:Ys}{base e size n:Nat}{v:Value}{xs:List Value}(h:w.ownsRow base e size v n xs):∀g,v.ownBlock=some g->base<=g:=by
 intro g hg;rcases h.2 with⟨rfl,_⟩|⟨g',cap,cur,rfl,hb,_⟩
 ·simp[Value.ownBlock]at hg
 simp[Value.ownBlock]at hg;omega
theorem dV{w w':Ys}{base e size n:Nat}{v:Value}{xs:List Value}(h:w.ownsRow base e size v n xs)(u:ac w w'):w'.ownsRow base e size v n xs:=by
 refine⟨h.1,?_⟩;rcases h.2 with h0|⟨g,cap,cur,rfl,hb,hh,hr⟩
 ·exact Or.inl h0
 have hlt:g<w.1.size:=by
  rcases Nat.lt_or_ge g w.1.size with h|h
  ·exact h
  rw[Array.getElem?_eq_none h]at hh;cases hh
 exact Or.inr ⟨g,cap,cur,rfl,hb,(u.below.block g hlt).trans hh,hr⟩
end
section
abbrev bT:Bool:=true
abbrev bF:Bool:=false
theorem ax{α:Type}(l:List α)(i:Nat)(x:α):l.toArray.setIfInBounds i x=(l.set i x).toArray:=List.setIfInBounds_toArray ..
theorem aw{α:Type}{x:α}{xs:List α}{i:Nat}{a:α}:(x :: xs).set (i+1) a=x :: xs.set i a:=List.set_cons_succ
theorem ay{α:Type}{x:α}{xs:List α}{a:α}:(x :: xs).set 0 a=a :: xs:=List.set_cons_zero
theorem aj{w:Ys}{b:Nat}{cs:Array Value}{T:TypeId}{fr:Nat × Nat}(h:w.1[b]?=some (Yo cs T fr))(j:Nat):w.cell? { block:=b,off:=j }=cs[j]?:=Lib.cell_of_heap h j
theorem bz{w:Ys}{b:Nat}{cs:Array Value}{T:TypeId}(h:w.1[b]?=some (Yo cs T))(j:Nat):w.frozen? { block:=b,off:=j }=false:=Lib.frozen_of_heap h j
theorem cx(w:Ys)(a:Addr){v:Value}(h:w.cell? a=some v):a.block<w.1.size:=World.block_lt_of_cell? w a h
theorem bA(w:Ys)(row:Option Nat):w.grownBy w row:=⟨rfl,rfl,rfl,Nat.le_refl _,λ_ _ _=>rfl⟩
theorem aO{a b c:Ys}{row row':Option Nat}(h:a.grownBy b row)(k:b.grownBy c row')(hr:∀g,row'=some g->row=some g\/a.1.size<=g):a.grownBy c row:=
 ⟨k.os.trans h.os,k.tape.trans h.tape,k.output.trans h.output,Nat.le_trans h.size k.size,λn hn hne=>by
  rw[k.block n (Nat.lt_of_lt_of_le hn h.size) (λe=>by rcases hr n e.symm with e' | e';exact hne e'.symm;omega),h.block n hn hne]⟩
theorem ac.gb{a b:Ys}(h:ac a b)(row:Option Nat):a.grownBy b row:=⟨h.below.os,h.below.tape,h.below.output,h.size,λk hk _=>h.below.block k hk⟩
theorem bK{a b c:Ys}{row:Option Nat}(h:a.grownBy b row)(k:ac b c):a.grownBy c row:=aO h (k.gb none) (λ_ e=>by cases e)
theorem cJ(w:Ys)(p:Addr)(v:Value):w.grownBy (w.setCell p v) (some p.block):=by
 refine⟨rfl,rfl,rfl,by simp,λk hk hne=>?_⟩;unfold World.setCell;simp only[Array.getElem?_modify];rw[if_neg (by intro e;exact hne (by rw[e]))]
theorem bQ{a b:Ys}{row:Option Nat}(h:a.grownBy b row)(p:Addr)(v:Value)(hr:row=some p.block\/a.1.size<=p.block):a.grownBy (b.setCell p v) row:=
 aO h (cJ b p v) (λg e=>by cases e;exact hr)
theorem ac.uG{a b c:Ys}{row:Option Nat}(h:ac a b)(k:b.grownBy c row)(hr:∀g,row=some g->a.1.size<=g):ac a c:=h.grown k hr
theorem dA{a b:Ys}{row:Option Nat}(h:a.grownBy b row){p:Addr}(hp:p.block<a.1.size)(hne:some p.block≠row):b.cell? p=a.cell? p:=World.cell?_of_block (h.block _ hp hne)
theorem Jv{a b:Ys}{row:Option Nat}(h:a.grownBy b row){p:Addr}(hp:p.block<a.1.size)(hne:some p.block≠row):b.frozen? p=a.frozen? p:=World.frozen?_of_block (h.block _ hp hne)
theorem da{w:Ys}{B B' e e' size size' n n':Nat}{v v':Value}{xs xs':List Value}(h:w.ownsRow B e size v n xs)(h':w.ownsRow B' e' size' v' n' xs')(hne:e≠e'):v.ownBlock=none\/v.ownBlock≠v'.ownBlock:=by
 rcases h.2 with⟨rfl,_⟩|⟨g,cap,cur,rfl,_,hgg,_⟩
 ·exact .inl rfl
 rcases h'.2 with⟨rfl,_⟩|⟨g',cap',cur',rfl,_,hgg',_⟩
 ·exact .inr (by simp[Value.ownBlock])
 refine .inr λhe=>?_
 simp only[Value.ownBlock,Option.some.injEq]at he;subst he;rw[hgg]at hgg';simp only[Option.some.injEq,Obj.cells.injEq]at hgg';exact hne hgg'.2.1
theorem eA{w w':Ys}{B e size n:Nat}{v:Value}{xs:List Value}(h:w.ownsRow B e size v n xs){g:Nat}(k:w.grownBy w' (some g))(hg:g<B):w'.ownsRow B e size v n xs:=
 h.kept k (by
  cases hv:v.ownBlock with
  | none=>exact .inl rfl
  | some x=>exact .inr (by have:=(h.lt x hv).1;simp;omega))
theorem cH{w:Ys}{base base' e size n:Nat}{v:Value}{xs:List Value}(h:w.ownsRow base e size v n xs)(hb:base'<=base):w.ownsRow base' e size v n xs:=
 ⟨h.1,h.2.imp id λ⟨g,cap,cur,h1,h2,h3⟩=>⟨g,cap,cur,h1,Nat.le_trans hb h2,h3⟩⟩
theorem aJ{w:Ys}{base e size n:Nat}{v:Value}{xs:List Value}(h:w.ownsRow base e size v n xs):∃A cap,v=Yj A n cap/\n<=cap/\cap<=maxLen:=by
 rcases h.2 with⟨rfl,rfl⟩|⟨g,cap,cur,rfl,_,_,h1,h2,_⟩
 ·exact⟨_,_,rfl,Nat.le_refl _,by unfold maxLen;omega⟩
 exact⟨_,_,rfl,h1,h2⟩
theorem aR{w:Ys}{base e size n:Nat}{v:Value}{xs:List Value}(h:w.ownsRow base e size v n xs):∃A cap,v=Yj A n cap/\n<=cap/\cap<=maxLen/\(A=none->cap=0):=by
 rcases h.2 with⟨rfl,rfl⟩|⟨g,cap,cur,rfl,_,_,h1,h2,_⟩
 ·exact⟨_,_,rfl,Nat.le_refl _,by unfold maxLen;omega,λ_=>rfl⟩
 exact⟨_,_,rfl,h1,h2,λe=>by cases e⟩
theorem dU{w:Ys}{base e size n cap:Nat}{A:Option Addr}{xs:List Value}(h:w.ownsRow base e size (Yj A n cap) n xs)(h0:0<n) :
  ∃g,A=some ⟨g,0,none⟩/\base<=g/\g<w.1.size/\∀j u,xs[j]?=some u->w.cell? ⟨g,j,none⟩=some u:=by
 have hc:=λg=>h.cells (g:=g)
 rcases h.2 with⟨e,rfl⟩|⟨g,cap',cur,e,hb,hh,_⟩
 ·omega
 simp only[Value.slice.injEq]at e;obtain⟨rfl,_,rfl⟩:=e;refine⟨g,rfl,hb,(Array.getElem?_eq_some_iff.1 hh).1,λj u hu=>?_⟩;have:=hc g rfl j u hu
 have hadd:(⟨g,0,none⟩:Addr).add j=⟨g,j,none⟩:=by unfold Addr.add;split<;>simp_all
 rwa [hadd]at this
end
section
def eJ(ts:List TypeId)(w w':Ys):Prop:=w.1.size<=w'.1.size/\∀(k:Nat) (cs:Array Value) (T:TypeId) (fr:Nat × Nat),w.1[k]?=some (Yo cs T fr)->T ∉ ts->w'.1[k]?=w.1[k]?
theorem eJ.refl(ts:List TypeId)(w:Ys):eJ ts w w:=⟨Nat.le_refl _,λ_ _ _ _ _ _=>rfl⟩
theorem eJ.trans{ts:List TypeId}{a b c:Ys}(h:eJ ts a b)(k:eJ ts b c):eJ ts a c:=
 ⟨Nat.le_trans h.1 k.1,λi cs T fr hi hT=>by
  have h1:=h.2 i cs T fr hi hT
  rw[k.2 i cs T fr (h1.trans hi) hT,h1]⟩
theorem ae{w:Ys}{k:Nat}{o:Obj}(h:w.1[k]?=some o):k<w.1.size:=(Array.getElem?_eq_some_iff.1 h).1
theorem ac.tk{a b:Ys}(h:ac a b)(ts:List TypeId):eJ ts a b:=⟨h.size,λk _ _ _ hk _=>h.below.block k (ae hk)⟩
theorem jA{ts:List TypeId}{w:Ys}{p:Addr}{v:Value}{cs:Array Value}{T:TypeId}{fr:Nat × Nat}(hb:w.1[p.block]?=some (Yo cs T fr))(hT:T∈ts):eJ ts w (w.setCell p v):=by
 refine⟨by simp,λk cs' T' fr' hk hT'=>?_⟩;unfold World.setCell;simp only[Array.getElem?_modify];rw[if_neg];intro e;subst e;rw[hb]at hk;simp only[Option.some.injEq,Obj.cells.injEq]at hk;exact hT' (hk.2.1 ▸ hT)
theorem np{ts:List TypeId}{w w':Ys}{row:Option Nat}(h:w.grownBy w' row)(hr:∀g,row=some g->∃cs T fr,w.1[g]?=some (Yo cs T fr)/\T∈ts):eJ ts w w':=by
 refine⟨h.size,λk cs T fr hk hT=>h.block k (ae hk) ?_⟩;intro e;obtain⟨cs',T',fr',h1,h2⟩:=hr k e.symm;rw[hk]at h1;simp only[Option.some.injEq,Obj.cells.injEq]at h1;exact hT (h1.2.1 ▸ h2)
theorem jt{w:Ys}{B e size n:Nat}{v:Value}{xs:List Value}(h:w.ownsRow B e size v n xs)(ts:List TypeId)(he:e∈ts):∀g,v.ownBlock=some g->∃cs T fr,w.1[g]?=some (Yo cs T fr)/\T∈ts:=by
 intro g hg;rcases h.2 with⟨rfl,_⟩|⟨g',cap,cur,rfl,_,hh,_⟩
 ·simp[Value.ownBlock]at hg
 simp only[Value.ownBlock,Option.some.injEq]at hg;subst hg;exact⟨cur,e,_,hh,he⟩
theorem ac.cn{w w':Ys}(h:Below w.1.size w w'):ac w w':=⟨w',(nr h).symm⟩
theorem aF{a b:Ys}(h:ac a b){B e size n:Nat}{v:Value}{xs:List Value}(k:a.ownsRow B e size v n xs):b.ownsRow B e size v n xs:=
 k.kept (h.gb none) (by cases v.ownBlock<;>simp)
end
section
theorem dH:(Tryz.prog.info? 36).map (λi=>(i.zero,i.size,i.bytes))=some (some (.agg #[.int .i64 0,.string ⟨#[]⟩,.int .i64 0]),3,32):=by kernel_rfl
theorem pY:(Tryz.prog.info? 5).map (λi=>(i.zero,i.size,i.bytes))=some (some (.int .u8 0),1,1):=by kernel_rfl
theorem fO:(Tryz.prog.info? 3).map (λi=>(i.zero,i.size,i.bytes))=some (some (.int .i64 0),1,8):=by kernel_rfl
def ak(f:List St.It):List Value:=f.flatMap λx=>[Yh Yn x.1,Yi ⟨x.2.1.toArray⟩,Yh Yn x.2.2]
theorem bD(f:List St.It)(x:St.It):ak (f++[x])=ak f++[Yh Yn x.1,Yi ⟨x.2.1.toArray⟩,Yh Yn x.2.2]:=by simp[ak]
def eY(l:List Nat):List Value:=l.map λ(c:Nat)=>Yh Yn c
theorem dB(l:List Nat)(c:Nat):eY (l++[c])=eY l++[Yh Yn c]:=by simp[eY]
theorem wN(l:List UInt8)(c:UInt8):Lib.byteCells (l++[c])=Lib.byteCells l++[Yh .u8 c.toNat]:=by simp[Lib.byteCells]
theorem aT{w:Ys}{B e T size n b:Nat}{v:Value}{xs:List Value}{cs:Array Value}{fr:Nat × Nat}(h:w.ownsRow B e size v n xs)(hb:w.1[b]?=some (Yo cs T fr))(hT:T≠e):v.ownBlock≠some b:=by
 rcases h.2 with⟨rfl,_⟩|⟨g,cap,cur,rfl,_,hg,_⟩
 ·simp[Value.ownBlock]
 intro h;simp only[Value.ownBlock,Option.some.injEq]at h;subst h;rw[hg]at hb;simp only[Option.some.injEq,Obj.cells.injEq]at hb;exact hT hb.2.1.symm
theorem aD{w:Ys}{B e size n b i:Nat}{v u:Value}{xs:List Value}(h:w.ownsRow B e size v n xs)(hb:v.ownBlock≠some b):(w.setCell ⟨b,i,none⟩ u).ownsRow B e size v n xs:=
 h.kept (cJ w ⟨b,i,none⟩ u) (Or.inr hb)
theorem gy(w2:Ys)(x:Value)(e:TypeId):∀j u,[x][j]?=some u->(w2.alloc (Yo #[x] e)).cell? ((⟨w2.1.size,0,none⟩:Addr).add j)=some u:=by
 intro j u hj
 match j,hj with
 | 0,hj=>simp at hj;subst hj;simp[Addr.add]
 | j+1,hj=>simp at hj
theorem ue(w2:Ys)(x:Value)(e:TypeId)(b:Nat)(hb:b=w2.1.size):∀j u,[x][j]?=some u->(w2.alloc (Yo #[x] e)).cell? ((⟨b,0,none⟩:Addr).add j)=some u:=by
 subst hb;exact gy w2 x e
theorem dW(w2:Ys)(x y z:Value)(e:TypeId)(b:Nat)(hb:b=w2.1.size):∀j u,[x,y,z][j]?=some u->(w2.alloc (Yo #[x,y,z] e)).cell? ((⟨b,0,none⟩:Addr).add j)=some u:=by
 subst hb;intro j u hj
 match j,hj with
 | 0,hj=>simp at hj;subst hj;simp[Addr.add]
 | 1,hj=>simp at hj;subst hj;simp[Addr.add]
 | 2,hj=>simp at hj;subst hj;simp[Addr.add]
 | j+3,hj=>simp at hj
theorem cL(k i:Int)(s:ByteArray):∀u∈[Yh Yn k,Yi s,Yh Yn i],u.oneCell'=true:=by
 intro u hu;simp at hu;rcases hu with rfl|rfl|rfl<;>rfl
theorem bn(s:ByteArray):(⟨s.1.1.toArray⟩:ByteArray)=s:=by cases s;simp
def aH(w:Ys)(A:Option Addr)(f:List St.It):Prop:=
 f.length > 0->∃b off,A=some ⟨b,off,none⟩/\b<w.1.size/\∀j (h:j<f.length),w.cell? ⟨b,off+j*3,none⟩=some (Yh Yn f[j].1)/\w.cell? ⟨b,off+j*3+1,none⟩=some (Yi ⟨f[j].2.1.toArray⟩)/\w.cell? ⟨b,off+j*3+2,none⟩=some (Yh Yn f[j].2.2)
theorem aH.ai{w w':Ys}{A:Option Addr}{f:List St.It}(h:aH w A f)(u:ac w w'):aH w' A f:=by
 intro h0;obtain⟨b,off,rfl,hb,hc⟩:=h h0;refine⟨b,off,rfl,Nat.lt_of_lt_of_le hb u.size,λj hj=>?_⟩;obtain⟨c0,c1,c2⟩:=hc j hj;exact⟨(u.cell hb).trans c0,(u.cell hb).trans c1,(u.cell hb).trans c2⟩
theorem kF(f:List St.It)(j:Nat)(h:j<f.length):(ak f)[j*3]?=some (Yh Yn f[j].1)/\(ak f)[j*3+1]?=some (Yi ⟨f[j].2.1.toArray⟩)/\(ak f)[j*3+2]?=some (Yh Yn f[j].2.2):=by
 induction f generalizing j with
 | nil=>simp at h
 | cons x f ih=>
  match j,h with
  | 0,_=>exact⟨rfl,rfl,rfl⟩
  | j+1,h=>
   obtain⟨a,b,c⟩:=ih j (by simpa using h);have e:(j+1)*3=j*3+3:=by omega
   rw[e];exact⟨a,b,c⟩
theorem aW{w:Ys}{B n c:Nat}{A:Option Addr}{f:List St.It}(h:w.ownsRow B 36 3 (Yj A n c) n (ak f))(hn:f.length=n):aH w A f:=by
 intro h0;obtain⟨g,rfl,_,hg,hc⟩:=dU h (by omega);refine⟨g,0,rfl,hg,λj hj=>?_⟩;obtain⟨a,b,c⟩:=kF f j hj;rw[Nat.zero_add];exact⟨hc _ _ a,hc _ _ b,hc _ _ c⟩
def iJ(w:Ys)(A:Option Addr)(l:List Nat):Prop:=l.length > 0->∃b off,A=some ⟨b,off,none⟩/\b<w.1.size/\∀j (h:j<l.length),w.cell? ⟨b,off+j,none⟩=some (Yh Yn (l[j]:Int))
theorem iJ.ai{w w':Ys}{A:Option Addr}{f:List Nat}(h:iJ w A f)(u:ac w w'):iJ w' A f:=by
 intro h0;obtain⟨b,off,rfl,hb,hc⟩:=h h0;exact⟨b,off,rfl,Nat.lt_of_lt_of_le hb u.size,λj hj=>(u.cell hb).trans (hc j hj)⟩
theorem vN{w:Ys}{B n c:Nat}{A:Option Addr}{l:List Nat}(h:w.ownsRow B 3 1 (Yj A n c) n (eY l))(hn:l.length=n):iJ w A l:=by
 intro h0;obtain⟨g,rfl,_,hg,hc⟩:=dU h (by omega);refine⟨g,0,rfl,hg,λj hj=>?_⟩;rw[Nat.zero_add];exact hc j _ (by simp[eY,hj])
end
section
noncomputable def tn(W:Ys)(b:Nat):Option Value->Result Value
 | some (Yh .u8 c)=>.ok (Yi ⟨#[UInt8.ofNat c.toNat]⟩) W
 | _=>(convert 22 9 (Yj (some ⟨b,0,none⟩) 1 1)).run Tryz.prog W
@[go_sem] theorem conv_cell1 (W:Ys) (b:Nat):(convert 22 9 (Yj (some ⟨b,0,none⟩) 1 1)).run Tryz.prog W=tn W b (W.cell? ⟨b,0,none⟩):=by
 unfold tn
 split
 ·rename_i c h
  rw[run_convert_bytes_arg _ 22 5 Tryz.underlying22 Tryz.underlying5 b 0 1 1 [c] rfl (λi hi=>by
   obtain rfl:i=0:=by omega
   simpa using h) _ Tryz.underlying9]
  rfl
 rfl
@[go_sem] theorem convFrom1_some (W:Ys) (b:Nat) (c:Int):tn W b (some (Yh .u8 c))=.ok (Yi ⟨#[UInt8.ofNat c.toNat]⟩) W:=rfl
theorem fA(W:Ys)(b:Nat)(k:Int)(t:List UInt8)(hb:b<W.1.size)(h0:W.cell? ⟨b,0,none⟩=some (Yh Yn k))(h1:W.cell? ⟨b,1,none⟩=some (Yi ⟨t.toArray⟩))(h2:W.cell? ⟨b,2,none⟩=some (Yh Yn 0)):aH W (some ⟨b,0,none⟩) [(k,t,0)]:=by
 intro _;refine⟨b,0,rfl,hb,λj hj=>?_⟩;obtain rfl:j=0:=by simpa using hj
 exact⟨h0,h1,h2⟩
theorem rU(w:Ys)(k:Int)(t:List UInt8)(o:Obj)(T:TypeId):aH ((w.alloc o).alloc (Yo #[Yh Yn k,Yi ⟨t.toArray⟩,Yh Yn 0] T)) (some ⟨w.1.size+1,0,none⟩) [(k,t,0)]:=
 fA _ _ _ _ (by simp) (by simp) (by simp) (by simp)
end
section
namespace St
theorem xD:∀l:List UInt8,Lib.indexByte l 125=if(l.takeWhile (λc=>decide (c.toNat≠125))).length<l.length then((l.takeWhile (λc=>decide (c.toNat≠125))).length:Int)else -1
 | []=>rfl
 | c :: l=>by
  unfold Lib.indexByte
  by_cases h:c.toNat=125
  ·have h2:c=125:=by apply UInt8.toNat_inj.1;simpa using h
   subst h2;simp
  have h2:¬c=125:=λe=>h (by rw[e];rfl)
  have h3:(c==125)=false:=by simpa using h2
  rw[h3,xD l,List.takeWhile_cons_of_pos (by simpa using h)];simp only[List.length_cons,Bool.false_eq_true,if_false]
  by_cases h4:(l.takeWhile (λc=>decide (c.toNat≠125))).length<l.length
  ·rw[if_pos h4,if_neg (by simp<;>omega),if_pos (by omega)];try simp
  rw[if_neg h4,if_pos (by simp),if_neg (by omega)]
theorem sr{c:UInt8}{r:List UInt8}(h:c.toNat=34):cm (c :: r)=if([34,34]:List UInt8).isPrefixOf (c :: r)then some (1,[c],2)else none:=by
 have h2:c=34:=by apply UInt8.toNat_inj.1;simpa using h
 subst h2;rfl
theorem qh{c:UInt8}{r:List UInt8}(h:c.toNat=123):cm (c :: r)=if([123,123]:List UInt8).isPrefixOf (c :: r)then some (1,[c],2)else(cM (c :: r)).map λx=>(5,x.1,x.2):=by
 have h2:c=123:=by apply UInt8.toNat_inj.1;simpa using h
 subst h2;rfl
theorem oj{c:UInt8}{r:List UInt8}(h:c.toNat≠34)(h':c.toNat≠123):cm (c :: r)=some (1,[c],1):=by
 simp[cm,h,h']
theorem uI{c d:UInt8}{r:List UInt8}(h:c≠d):([d,d]:List UInt8).isPrefixOf (c :: r)=false:=by
 simp[List.isPrefixOf];intro e;exact absurd e.symm h
theorem ru{c:UInt8}{r:List UInt8}(h:c.toNat=123):(Lib.indexByte (c :: r) 125=-1/\cM (c :: r)=none)\/∃n:Nat,Lib.indexByte (c :: r) 125=((n+1:Nat):Int)/\n+1<(c :: r).length/\r.take n=r.takeWhile (λc=>decide (c.toNat≠125)) /\
  cM (c :: r)=if aE (r.take n)=true then some (r.take n,n+2)else none:=by
 rw[xD,List.takeWhile_cons_of_pos (by simp;omega)];generalize hn:r.takeWhile (λc=>decide (c.toNat≠125))=t;have ht:r.take t.length=t:=by rw[<-hn];exact(List.prefix_iff_eq_take.1 (List.takeWhile_prefix _)).symm
 have hs:cM (c :: r)=if decide (t.length+1<(c :: r).length)&&aE t then some (t,t.length+2)else none:=by
  unfold cM;simp only[List.drop_succ_cons,List.drop_zero,hn]
 rw[hs]
 by_cases h2:t.length+1<(c :: r).length
 ·right;refine⟨t.length,by rw[List.length_cons,if_pos h2],h2,ht,?_⟩;rw[ht,decide_eq_true h2];rfl
 left;refine⟨by rw[List.length_cons,if_neg h2],?_⟩;rw[decide_eq_false h2];rfl
theorem qR(E:List UInt8->El)(fuel a d:Nat)(f:List It)(cuts:List Nat):dec E fuel [] a d f cuts=(f,cuts++[d],0,0):=by cases fuel<;>simp[dec]
theorem oT{E:List UInt8->El}{l:List UInt8}(fuel a d:Nat)(f:List It)(cuts:List Nat)(h0:l≠[])(h:E l=none):dec E (fuel+1) l a d f cuts=([],[],a,2):=by
 rw[dec,if_neg h0,h]
theorem oS{E:List UInt8->El}{l:List UInt8}{k:Int}{t:List UInt8}{n:Nat}(fuel a d:Nat)(f:List It)(cuts:List Nat)(h0:l≠[])(h:E l=some (k,t,n))(hk:k≠0)(hf:512<(aL f (k,t,0)).length\/1024<=cuts.length):dec E (fuel+1) l a d f cuts=([],[],a,3):=by
 rw[dec,if_neg h0,h];simp only;rw[if_neg hk,if_pos hf]
theorem oU{E:List UInt8->El}{l:List UInt8}{k:Int}{t:List UInt8}{n:Nat}(fuel a d:Nat)(f:List It)(cuts:List Nat)(h0:l≠[])(h:E l=some (k,t,n))(hk:k≠0)(hf:¬(512<(aL f (k,t,0)).length\/1024<=cuts.length)) :
  dec E (fuel+1) l a d f cuts=dec E fuel (l.drop n) (a+n) (a+n) (aL f (k,t,0)) (cuts++[d]):=by
 rw[dec,if_neg h0,h];simp only;rw[if_neg hk,if_neg hf]
theorem vo{E:List UInt8->El}{l:List UInt8}{t:List UInt8}{n:Nat}(fuel a d:Nat)(f:List It)(cuts:List Nat)(h0:l≠[])(h:E l=some (0,t,n)):dec E (fuel+1) l a d f cuts=dec E fuel (l.drop n) (a+n) d f cuts:=by
 rw[dec,if_neg h0,h];simp only[if_true]
theorem ud{l:List UInt8}{k:Int}{t:List UInt8}{n:Nat}(h:cm l=some (k,t,n)):(k=1\/k=5)/\1<=n/\n<=l.length:=by
 match l,h with
 | c :: r,h=>
  by_cases gS:c.toNat=34
  ·rw[sr gS]at h
   split at h
   ·rename_i hp
    simp only[Option.some.injEq,Prod.mk.injEq]at h;obtain⟨rfl,_,rfl⟩:=h;refine⟨.inl rfl,by omega,?_⟩;have:=(List.isPrefixOf_iff_prefix.1 hp).length_le
    simpa using this
   cases h
  by_cases dj:c.toNat=123
  ·rw[qh dj]at h
   split at h
   ·rename_i hp
    simp only[Option.some.injEq,Prod.mk.injEq]at h;obtain⟨rfl,_,rfl⟩:=h;refine⟨.inl rfl,by omega,?_⟩;have:=(List.isPrefixOf_iff_prefix.1 hp).length_le
    simpa using this
   rcases ru (r:=r) dj with⟨_,hs⟩|⟨m,_,hm,_,hs⟩
   ·rw[hs]at h;cases h
   rw[hs]at h
   split at h
   ·simp only[Option.map_some,Option.some.injEq,Prod.mk.injEq]at h;obtain⟨rfl,_,rfl⟩:=h;exact⟨.inr rfl,by omega,by omega⟩
   cases h
  rw[oj gS dj]at h;simp only[Option.some.injEq,Prod.mk.injEq]at h;obtain⟨rfl,_,rfl⟩:=h;exact⟨.inl rfl,by omega,by simp⟩
end St
def preB(t s:ByteArray):Bool:=t.1.1.isPrefixOf s.1.1
end
section
theorem nP:(Tryz.prog.info? 64).map (λi=>(i.zero,i.size,i.bytes))=some (some (.agg #[.bool false,.string ⟨#[]⟩,.string ⟨#[]⟩]),3,40):=by kernel_rfl
def bX(f:List St.Pt):List Value:=f.flatMap λx=>[Yk x.1,Yi ⟨x.2.1.toArray⟩,Yi ⟨x.2.2.toArray⟩]
theorem oe(f g:List St.Pt):bX (f++g)=bX f++bX g:=by simp[bX]
def PV(w:Ys)(B pb:Nat)(d:ByteArray)(s:St.PS):Prop:=
 B<=pb/\∃v,w.1[pb]?=some (Yo #[Yi d,Yh Yn s.2,v] 161 (0,0))/\w.ownsRow B 64 3 v s.1.length (bX s.1)
theorem PV.ai{a c:Ys}{B pb:Nat}{d:ByteArray}{s:St.PS}(h:PV a B pb d s)(u:ac a c):PV c B pb d s:=by
 obtain⟨h0,v,h1,h2⟩:=h;exact⟨h0,v,(u.below.block pb (ae h1)).trans h1,aF u h2⟩
def nR:List TypeId:=[161,64]
theorem tm(a b:ByteArray)(h:a.1.1=b.1.1):a=b:=by
 rw[<-bn a,<-bn b,h]
theorem eR(d:ByteArray)(a b:Nat):(d.extract a b).1.1=St.a6 d.1.1 a b:=by
 unfold St.a6;simp[List.drop_take]
theorem uB(d:ByteArray)(a b:Nat):(⟨(St.a6 d.1.1 a b).toArray⟩:ByteArray)=d.extract a b:=by rw[<-eR,bn]
end
