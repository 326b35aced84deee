/- The contracts of IsName of package class and of its reference. -/
import Derived.Test.YtcfhfdphoidaeaaGreatDoorRows
import Derived.Test.YtcfhfdphoidaeaaGreatDoorUnder
import Derived.Test.YtcfhfdphoidaeaaGreatDoorBas
import Derived.Outline
import Derived.Deep.RegionLaw
import Derived.Lib.Builder
import Derived.Lib.UnsafeStr
import Derived.Laws.BytesArg
import Derived.Laws.Rows
import Derived.OwnWalk
import Derived.IntWalk
import Derived.WalkSpells
import Derived.Lib.Strings
import Derived.Lib.IndexBytes
set_option linter.unusedVariables false
set_option linter.unusedSimpArgs false
set_option maxHeartbeats 12800000
namespace Go.Proofs.YtcfhfdphoidaeaaGreatDoor
open Go.RowKit
section
def NameRel(s:ByteArray)(lo:Nat)(i:Value):Prop:=∃ k:Nat,lo<=k/\k<=s.size/\i=.int .i64 k/\St.isNameL s.data.toList=(s.data.toList.drop k).all St.nameC
theorem isname_any(s:ByteArray)(w:World)(hs:s.size<=9223372036854775807):Calls Tryz.prog 76 #[.string s] w fun e w'=>e=.returned (.bool (St.isNameL s.data.toList))/\w=w':=by
 by_cases h0:s.size=0
 ·rw[St.name_empty s h0]
  have z:(s.size:Int)<1:=by omega
  clear h0;go_enter Tryz.func76,Tryz.ntmps76;go_wp2;go_ret;exact⟨rfl,rfl⟩
 by_cases h1:24<s.size
 ·rw[St.name_long s h1]
  have z:¬ (s.size:Int)<1:=by omega
  have z1:24<(s.size:Int):=by omega
  clear h0;go_enter Tryz.func76,Tryz.ntmps76;go_wp2;go_ret;exact⟨rfl,rfl⟩
 have hp:0<s.size:=by omega
 have z:¬ (s.size:Int)<1:=by omega
 have z1:¬ 24<(s.size:Int):=by omega
 by_cases hc:97<=s[0].toNat/\s[0].toNat<=122
 ·have z2:¬ (s[0].toNat:Int)<97:=by omega
  have z3:¬ 122<(s[0].toNat:Int):=by omega
  have hrest:=St.name_rest s hp (by omega) (by unfold St.lowC;exact decide_eq_true hc);have HR:=hid hrest;clear hrest h0 h1 hc;go_enter Tryz.func76,Tryz.ntmps76;go_wp2;go_loop [3] (fun i=>NameRel s 1 i) (fun i=>s.size-(intOf i).toNat)
  case atStart=>exact⟨1,by omega,by omega,rfl,HR.out⟩
  case round=>
   obtain⟨k,hk1,hk,rfl,H⟩:=hrel;have HH:=hid H;clear H
   by_cases hlt:k<s.size
   ·have hstep:=hid (St.all_step s k hlt)
    rcases(show (97<=s[k].toNat/\s[k].toNat<=122)∨(48<=s[k].toNat/\s[k].toNat<=57)∨s[k].toNat=45∨(s[k].toNat<48/\s[k].toNat ≠ 45)∨(58<=s[k].toNat/\s[k].toNat<97)∨122<s[k].toNat by omega) with c|c|c|c|c|c
    ·have HC:=hid c
     have y1:97<=(s[k].toNat:Int):=by omega
     have y2:(s[k].toNat:Int)<=122:=by omega
     clear c;go_wp2;go_round
     case rel=>exact⟨k+1,by omega,by omega,by go_num,by rw[HH.out,hstep.out];have:=HC.out;simp[St.nameC,this]⟩
     case measure=>simp[intOf];omega
    ·have HC:=hid c
     have y1:48<=(s[k].toNat:Int):=by omega
     have y2:(s[k].toNat:Int)<=57:=by omega
     clear c;go_wp2;go_round
     case rel=>exact⟨k+1,by omega,by omega,by go_num,by rw[HH.out,hstep.out];have:=HC.out;simp[St.nameC,this]⟩
     case measure=>simp[intOf];omega
    ·have HC:=hid c
     have y1:¬ 48<=(s[k].toNat:Int):=by omega
     have y2:¬ 97<=(s[k].toNat:Int):=by omega
     have y3:((s[k].toNat:Int)==45)=true:=by simp;omega
     clear c;go_wp2;go_round
     case rel=>exact⟨k+1,by omega,by omega,by go_num,by rw[HH.out,hstep.out];have:=HC.out;simp[St.nameC,this]⟩
     case measure=>simp[intOf];omega
    ·have HC:=hid c
     have y1:¬ 48<=(s[k].toNat:Int):=by omega
     have y2:¬ 97<=(s[k].toNat:Int):=by omega
     have y3:((s[k].toNat:Int)==45)=false:=by simp;omega
     clear c;go_wp2;go_ret;exact⟨ret_bool (by rw[HH.out,hstep.out];have e:St.nameC s[k]=false:=decide_eq_false (by have:=HC.out;omega);rw[e];rfl),rfl⟩
    ·have HC:=hid c
     have y1:48<=(s[k].toNat:Int):=by omega
     have y2:¬ 97<=(s[k].toNat:Int):=by omega
     have y4:¬ (s[k].toNat:Int)<=57:=by omega
     have y3:((s[k].toNat:Int)==45)=false:=by simp;omega
     clear c;go_wp2;go_ret;exact⟨ret_bool (by rw[HH.out,hstep.out];have e:St.nameC s[k]=false:=decide_eq_false (by have:=HC.out;omega);rw[e];rfl),rfl⟩
    ·have HC:=hid c
     have y1:97<=(s[k].toNat:Int):=by omega
     have y2:¬ (s[k].toNat:Int)<=122:=by omega
     have y4:¬ (s[k].toNat:Int)<=57:=by omega
     have y5:48<=(s[k].toNat:Int):=by omega
     have y3:((s[k].toNat:Int)==45)=false:=by simp;omega
     clear c;go_wp2;go_ret;exact⟨ret_bool (by rw[HH.out,hstep.out];have e:St.nameC s[k]=false:=decide_eq_false (by have:=HC.out;omega);rw[e];rfl),rfl⟩
   ·obtain rfl:k=s.size:=by omega
    clear hlt;go_wp2;go_ret;exact⟨ret_bool (by rw[HH.out,St.drop_all s _ (Nat.le_refl _)];rfl),rfl⟩
 ·rw[St.name_head s hp (by unfold St.lowC;exact decide_eq_false hc)]
  rcases(show s[0].toNat<97∨(97<=s[0].toNat/\122<s[0].toNat) by omega) with c|⟨c,c'⟩
  ·have z2:(s[0].toNat:Int)<97:=by omega
   clear h0 h1 hc c;go_enter Tryz.func76,Tryz.ntmps76;go_wp2;go_ret;exact⟨rfl,rfl⟩
  ·have z2:¬ (s[0].toNat:Int)<97:=by omega
   have z3:122<(s[0].toNat:Int):=by omega
   clear h0 h1 hc c c';go_enter Tryz.func76,Tryz.ntmps76;go_wp2;go_ret;exact⟨rfl,rfl⟩
end
section
theorem step_append_own{P:Program}{ops:Array Oper}{o:Oper}{a:Act}{w:World}{K:Act->World->Prop}{Q:Exit->Act->World->Prop}{E:Prop}
  (hg:o.guard=none) (s x:Operand) (t:TypeId) (hop:o.op=Op.call { callee:=Callee.builtin Builtin.append,args:=#[s,x],argTypes:=#[t,t] })
  (base:Nat) (e:TypeId) (i:TypeInfo) (z:Value) (size bytes:Nat) (ht:P.underlying t=some (.slice e)) (hi:P.info? e=some i) (hz:i.zero=some z)
  (hsize:i.size=size) (hby:i.bytes=bytes) (hzs:z.cells.size=size) (hsz:0<size)
  (v:Value) (n:Nat) (xs:List Value) (hs:a.eval s=v) (hown:w.ownsRow base e size v n xs)
  (ad:Addr) (m c:Nat) (news:List Value) (hx:a.eval x=.slice (some ad) m c) (hl:news.length=m*size) (hnews:∀ j u,news[j]?=some u->w.cell? (ad.add j)=some u) (h1:∀ u ∈ news,u.oneCell'=true)
  (h63:n+m<=maxLen) (hbytes:(n+m)*bytes<=140737488355328) (hbase:base<=w.heap.size)
  (h:∀ v' w',w'.ownsRow base e size v' (n+m) (xs++news)->w.grownBy w' v.ownBlock->(v'=.slice none 0 0 ↔ v=.slice none 0 0/\m=0)->K (a.put o.dst v') w') :
  if Region.wanted o (yielded ops a.tmps)=true then Oper.wp P o a w K Q else E:=by
 have hw:Region.wanted o (yielded ops a.tmps)=true:=by simp[Region.wanted,hg]
 rw[if_pos hw];exact wp_append_own w s x t hop base e i z size bytes ht hi hz hsize hby hzs hsz v n xs hs hown ad m c news hx hl hnews h1 h63 hbytes hbase h
theorem Und.grown{a b c:World}(h:Und a b){row:Option Nat}(hg:b.grownBy c row)(hr:∀ g,row=some g->a.heap.size<=g):Und a c:=
 Und.mk (h.below.grown hg h.below.size hr)
theorem owns_block{w:World}{base e size n:Nat}{v:Value}{xs:List Value}(h:w.ownsRow base e size v n xs):∀ g,v.ownBlock=some g->base<=g:=by
 intro g hg;rcases h.2 with ⟨rfl,_⟩|⟨g',cap,cur,rfl,hb,_⟩
 ·simp[Value.ownBlock] at hg
 ·simp[Value.ownBlock] at hg;omega
theorem owns_und{w w':World}{base e size n:Nat}{v:Value}{xs:List Value}(h:w.ownsRow base e size v n xs)(u:Und w w'):w'.ownsRow base e size v n xs:=by
 refine⟨h.1,?_⟩;rcases h.2 with h0|⟨g,cap,cur,rfl,hb,hh,hr⟩
 ·exact Or.inl h0
 ·have hlt:g<w.heap.size:=by
   rcases Nat.lt_or_ge g w.heap.size with h|h
   ·exact h
   ·rw[Array.getElem?_eq_none h] at hh;cases hh
  exact Or.inr ⟨g,cap,cur,rfl,hb,(u.below.block g hlt).trans hh,hr⟩
end
section
abbrev bT:Bool:=true
abbrev bF:Bool:=false
theorem zsA{α:Type}(l:List α)(i:Nat)(x:α):l.toArray.setIfInBounds i x=(l.set i x).toArray:=List.setIfInBounds_toArray ..
theorem zsB{α:Type}{x:α}{xs:List α}{i:Nat}{a:α}:(x :: xs).set (i+1) a=x :: xs.set i a:=List.set_cons_succ
theorem zsC{α:Type}{x:α}{xs:List α}{a:α}:(x :: xs).set 0 a=a :: xs:=List.set_cons_zero
theorem zcH{w:World}{b:Nat}{cs:Array Value}{T:TypeId}{fr:Nat × Nat}(h:w.heap[b]?=some (Obj.cells cs T fr))(j:Nat):w.cell? { block:=b,off:=j }=cs[j]?:=Lib.cell_of_heap h j
theorem zfH{w:World}{b:Nat}{cs:Array Value}{T:TypeId}(h:w.heap[b]?=some (Obj.cells cs T))(j:Nat):w.frozen? { block:=b,off:=j }=false:=Lib.frozen_of_heap h j
theorem zbL(w:World)(a:Addr){v:Value}(h:w.cell? a=some v):a.block<w.heap.size:=World.block_lt_of_cell? w a h
theorem gb_refl(w:World)(row:Option Nat):w.grownBy w row:=⟨rfl,rfl,rfl,Nat.le_refl _,fun _ _ _=>rfl⟩
theorem gb_trans{a b c:World}{row row':Option Nat}(h:a.grownBy b row)(k:b.grownBy c row')(hr:∀ g,row'=some g->row=some g∨a.heap.size<=g):a.grownBy c row:=
 ⟨k.os.trans h.os,k.tape.trans h.tape,k.output.trans h.output,Nat.le_trans h.size k.size,fun n hn hne=>by
  rw[k.block n (Nat.lt_of_lt_of_le hn h.size) (fun e=>by rcases hr n e.symm with e' | e';exact hne e'.symm;omega),h.block n hn hne]⟩
theorem Und.gb{a b:World}(h:Und a b)(row:Option Nat):a.grownBy b row:=⟨h.below.os,h.below.tape,h.below.output,h.size,fun k hk _=>h.below.block k hk⟩
theorem gb_und{a b c:World}{row:Option Nat}(h:a.grownBy b row)(k:Und b c):a.grownBy c row:=gb_trans h (k.gb none) (fun _ e=>by cases e)
theorem gb_set(w:World)(p:Addr)(v:Value):w.grownBy (w.setCell p v) (some p.block):=by
 refine⟨rfl,rfl,rfl,by simp,fun k hk hne=>?_⟩;unfold World.setCell;simp only[Array.getElem?_modify];rw[if_neg (by intro e;exact hne (by rw[e]))]
theorem gb_setCell{a b:World}{row:Option Nat}(h:a.grownBy b row)(p:Addr)(v:Value)(hr:row=some p.block∨a.heap.size<=p.block):a.grownBy (b.setCell p v) row:=
 gb_trans h (gb_set b p v) (fun g e=>by cases e;exact hr)
theorem Und.of_gb{a b c:World}{row:Option Nat}(h:Und a b)(k:b.grownBy c row)(hr:∀ g,row=some g->a.heap.size<=g):Und a c:=h.grown k hr
theorem gb_cell{a b:World}{row:Option Nat}(h:a.grownBy b row){p:Addr}(hp:p.block<a.heap.size)(hne:some p.block ≠ row):b.cell? p=a.cell? p:=World.cell?_of_block (h.block _ hp hne)
theorem gb_frozen{a b:World}{row:Option Nat}(h:a.grownBy b row){p:Addr}(hp:p.block<a.heap.size)(hne:some p.block ≠ row):b.frozen? p=a.frozen? p:=World.frozen?_of_block (h.block _ hp hne)
theorem rows_ne{w:World}{B B' e e' size size' n n':Nat}{v v':Value}{xs xs':List Value}(h:w.ownsRow B e size v n xs)(h':w.ownsRow B' e' size' v' n' xs')(hne:e ≠ e'):v.ownBlock=none∨v.ownBlock ≠ v'.ownBlock:=by
 rcases h.2 with ⟨rfl,_⟩|⟨g,cap,cur,rfl,_,hgg,_⟩
 ·exact .inl rfl
 ·rcases h'.2 with ⟨rfl,_⟩|⟨g',cap',cur',rfl,_,hgg',_⟩
  ·exact .inr (by simp[Value.ownBlock])
  ·refine .inr fun he=>?_
   simp only[Value.ownBlock,Option.some.injEq] at he;subst he;rw[hgg] at hgg';simp only[Option.some.injEq,Obj.cells.injEq] at hgg';exact hne hgg'.2.1
theorem own_gb{w w':World}{B e size n:Nat}{v:Value}{xs:List Value}(h:w.ownsRow B e size v n xs){g:Nat}(k:w.grownBy w' (some g))(hg:g<B):w'.ownsRow B e size v n xs:=
 h.kept k (by
  cases hv:v.ownBlock with
  | none=>exact .inl rfl
  | some x=>exact .inr (by have:=(h.lt x hv).1;simp;omega))
theorem own_low{w:World}{base base' e size n:Nat}{v:Value}{xs:List Value}(h:w.ownsRow base e size v n xs)(hb:base'<=base):w.ownsRow base' e size v n xs:=
 ⟨h.1,h.2.imp id fun ⟨g,cap,cur,h1,h2,h3⟩=>⟨g,cap,cur,h1,Nat.le_trans hb h2,h3⟩⟩
theorem own_slice{w:World}{base e size n:Nat}{v:Value}{xs:List Value}(h:w.ownsRow base e size v n xs):∃ A cap,v=.slice A n cap/\n<=cap/\cap<=maxLen:=by
 rcases h.2 with ⟨rfl,rfl⟩|⟨g,cap,cur,rfl,_,_,h1,h2,_⟩
 ·exact⟨_,_,rfl,Nat.le_refl _,by unfold maxLen;omega⟩
 ·exact⟨_,_,rfl,h1,h2⟩
theorem own_slice'{w:World}{base e size n:Nat}{v:Value}{xs:List Value}(h:w.ownsRow base e size v n xs):∃ A cap,v=.slice A n cap/\n<=cap/\cap<=maxLen/\(A=none->cap=0):=by
 rcases h.2 with ⟨rfl,rfl⟩|⟨g,cap,cur,rfl,_,_,h1,h2,_⟩
 ·exact⟨_,_,rfl,Nat.le_refl _,by unfold maxLen;omega,fun _=>rfl⟩
 ·exact⟨_,_,rfl,h1,h2,fun e=>by cases e⟩
theorem own_cell{w:World}{base e size n cap:Nat}{A:Option Addr}{xs:List Value}(h:w.ownsRow base e size (.slice A n cap) n xs)(h0:0<n) :
  ∃ g,A=some ⟨g,0,none⟩/\base<=g/\g<w.heap.size/\∀ j u,xs[j]?=some u->w.cell? ⟨g,j,none⟩=some u:=by
 have hc:=fun g=>h.cells (g:=g)
 rcases h.2 with ⟨e,rfl⟩|⟨g,cap',cur,e,hb,hh,_⟩
 ·omega
 ·simp only[Value.slice.injEq] at e
  obtain⟨rfl,_,rfl⟩:=e;refine⟨g,rfl,hb,(Array.getElem?_eq_some_iff.1 hh).1,fun j u hu=>?_⟩;have:=hc g rfl j u hu
  have hadd:(⟨g,0,none⟩:Addr).add j=⟨g,j,none⟩:=by unfold Addr.add;split <;> simp_all
  rwa [hadd] at this
end
section
def TKept(ts:List TypeId)(w w':World):Prop:=w.heap.size<=w'.heap.size/\∀ (k:Nat) (cs:Array Value) (T:TypeId) (fr:Nat × Nat),w.heap[k]?=some (Obj.cells cs T fr)->T ∉ ts->w'.heap[k]?=w.heap[k]?
theorem TKept.refl(ts:List TypeId)(w:World):TKept ts w w:=⟨Nat.le_refl _,fun _ _ _ _ _ _=>rfl⟩
theorem TKept.trans{ts:List TypeId}{a b c:World}(h:TKept ts a b)(k:TKept ts b c):TKept ts a c:=
 ⟨Nat.le_trans h.1 k.1,fun i cs T fr hi hT=>by
  have h1:=h.2 i cs T fr hi hT
  rw[k.2 i cs T fr (h1.trans hi) hT,h1]⟩
theorem lt_of_heap{w:World}{k:Nat}{o:Obj}(h:w.heap[k]?=some o):k<w.heap.size:=(Array.getElem?_eq_some_iff.1 h).1
theorem Und.tk{a b:World}(h:Und a b)(ts:List TypeId):TKept ts a b:=⟨h.size,fun k _ _ _ hk _=>h.below.block k (lt_of_heap hk)⟩
theorem tk_set{ts:List TypeId}{w:World}{p:Addr}{v:Value}{cs:Array Value}{T:TypeId}{fr:Nat × Nat}(hb:w.heap[p.block]?=some (.cells cs T fr))(hT:T ∈ ts):TKept ts w (w.setCell p v):=by
 refine⟨by simp,fun k cs' T' fr' hk hT'=>?_⟩;unfold World.setCell;simp only[Array.getElem?_modify];rw[if_neg];intro e;subst e;rw[hb] at hk;simp only[Option.some.injEq,Obj.cells.injEq] at hk;exact hT' (hk.2.1 ▸ hT)
theorem tk_grown{ts:List TypeId}{w w':World}{row:Option Nat}(h:w.grownBy w' row)(hr:∀ g,row=some g->∃ cs T fr,w.heap[g]?=some (.cells cs T fr)/\T ∈ ts):TKept ts w w':=by
 refine⟨h.size,fun k cs T fr hk hT=>h.block k (lt_of_heap hk) ?_⟩;intro e;obtain⟨cs',T',fr',h1,h2⟩:=hr k e.symm;rw[hk] at h1;simp only[Option.some.injEq,Obj.cells.injEq] at h1;exact hT (h1.2.1 ▸ h2)
theorem own_type{w:World}{B e size n:Nat}{v:Value}{xs:List Value}(h:w.ownsRow B e size v n xs)(ts:List TypeId)(he:e ∈ ts):∀ g,v.ownBlock=some g->∃ cs T fr,w.heap[g]?=some (.cells cs T fr)/\T ∈ ts:=by
 intro g hg;rcases h.2 with ⟨rfl,_⟩|⟨g',cap,cur,rfl,_,hh,_⟩
 ·simp[Value.ownBlock] at hg
 ·simp only[Value.ownBlock,Option.some.injEq] at hg
  subst hg;exact⟨cur,e,_,hh,he⟩
theorem TKept.cell{ts:List TypeId}{a b:World}(h:TKept ts a b){k:Nat}{cs:Array Value}{T:TypeId}{fr:Nat × Nat}(hk:a.heap[k]?=some (.cells cs T fr))(hT:T ∉ ts)(j:Nat):b.cell? ⟨k,j,none⟩=cs[j]?:=
 zcH ((h.2 k cs T fr hk hT).trans hk) j
theorem Und.of_below{w w':World}(h:Below w.heap.size w w'):Und w w':=⟨w',(under_eq h).symm⟩
theorem own_und{a b:World}(h:Und a b){B e size n:Nat}{v:Value}{xs:List Value}(k:a.ownsRow B e size v n xs):b.ownsRow B e size v n xs:=
 k.kept (h.gb none) (by cases v.ownBlock <;> simp)
end
section
theorem info_item:(Tryz.prog.info? 66).map (fun i=>(i.zero,i.size,i.bytes))=some (some (.agg #[.int .i64 0,.string ⟨#[]⟩,.int .i64 0]),3,32):=by kernel_rfl
theorem info_byte:(Tryz.prog.info? 5).map (fun i=>(i.zero,i.size,i.bytes))=some (some (.int .u8 0),1,1):=by kernel_rfl
theorem info_int:(Tryz.prog.info? 3).map (fun i=>(i.zero,i.size,i.bytes))=some (some (.int .i64 0),1,8):=by kernel_rfl
def cellsIt(f:List St.It):List Value:=f.flatMap fun x=>[.int .i64 x.1,.string ⟨x.2.1.toArray⟩,.int .i64 x.2.2]
theorem cellsIt_snoc(f:List St.It)(x:St.It):cellsIt (f++[x])=cellsIt f++[.int .i64 x.1,.string ⟨x.2.1.toArray⟩,.int .i64 x.2.2]:=by simp[cellsIt]
def cellsN(l:List Nat):List Value:=l.map fun (c:Nat)=>.int .i64 c
theorem cellsN_snoc(l:List Nat)(c:Nat):cellsN (l++[c])=cellsN l++[.int .i64 c]:=by simp[cellsN]
theorem bytes_snoc(l:List UInt8)(c:UInt8):Lib.byteCells (l++[c])=Lib.byteCells l++[.int .u8 c.toNat]:=by simp[Lib.byteCells]
theorem own_ne{w:World}{B e T size n b:Nat}{v:Value}{xs:List Value}{cs:Array Value}{fr:Nat × Nat}(h:w.ownsRow B e size v n xs)(hb:w.heap[b]?=some (Obj.cells cs T fr))(hT:T ≠ e):v.ownBlock ≠ some b:=by
 rcases h.2 with ⟨rfl,_⟩|⟨g,cap,cur,rfl,_,hg,_⟩
 ·simp[Value.ownBlock]
 ·intro h
  simp only[Value.ownBlock,Option.some.injEq] at h;subst h;rw[hg] at hb;simp only[Option.some.injEq,Obj.cells.injEq] at hb;exact hT hb.2.1.symm
theorem own_set{w:World}{B e size n b i:Nat}{v u:Value}{xs:List Value}(h:w.ownsRow B e size v n xs)(hb:v.ownBlock ≠ some b):(w.setCell ⟨b,i,none⟩ u).ownsRow B e size v n xs:=
 h.kept (gb_set w ⟨b,i,none⟩ u) (Or.inr hb)
theorem side1b(w2:World)(x:Value)(e:TypeId):∀ j u,[x][j]?=some u->(w2.alloc (.cells #[x] e)).cell? ((⟨w2.heap.size,0,none⟩:Addr).add j)=some u:=by
 intro j u hj
 match j,hj with
 | 0,hj=>simp at hj;subst hj;simp[Addr.add]
 | j+1,hj=>simp at hj
theorem side1c(w2:World)(x:Value)(e:TypeId)(b:Nat)(hb:b=w2.heap.size):∀ j u,[x][j]?=some u->(w2.alloc (.cells #[x] e)).cell? ((⟨b,0,none⟩:Addr).add j)=some u:=by
 subst hb;exact side1b w2 x e
theorem side3b(w2:World)(x y z:Value)(e:TypeId)(b:Nat)(hb:b=w2.heap.size):∀ j u,[x,y,z][j]?=some u->(w2.alloc (.cells #[x,y,z] e)).cell? ((⟨b,0,none⟩:Addr).add j)=some u:=by
 subst hb;intro j u hj
 match j,hj with
 | 0,hj=>simp at hj;subst hj;simp[Addr.add]
 | 1,hj=>simp at hj;subst hj;simp[Addr.add]
 | 2,hj=>simp at hj;subst hj;simp[Addr.add]
 | j+3,hj=>simp at hj
theorem item_one(k i:Int)(s:ByteArray):∀ u ∈ [Value.int .i64 k,Value.string s,Value.int .i64 i],u.oneCell'=true:=by
 intro u hu;simp at hu;rcases hu with rfl|rfl|rfl <;> rfl
theorem ba_eta(s:ByteArray):(⟨s.data.toList.toArray⟩:ByteArray)=s:=by cases s;simp
def ItemsAt(w:World)(A:Option Addr)(f:List St.It):Prop:=
 f.length > 0->∃ b off,A=some ⟨b,off,none⟩/\b<w.heap.size/\∀ j (h:j<f.length),w.cell? ⟨b,off+j*3,none⟩=some (.int .i64 f[j].1)/\w.cell? ⟨b,off+j*3+1,none⟩=some (.string ⟨f[j].2.1.toArray⟩)/\w.cell? ⟨b,off+j*3+2,none⟩=some (.int .i64 f[j].2.2)
theorem ItemsAt.und{w w':World}{A:Option Addr}{f:List St.It}(h:ItemsAt w A f)(u:Und w w'):ItemsAt w' A f:=by
 intro h0;obtain⟨b,off,rfl,hb,hc⟩:=h h0;refine⟨b,off,rfl,Nat.lt_of_lt_of_le hb u.size,fun j hj=>?_⟩;obtain⟨c0,c1,c2⟩:=hc j hj;exact⟨(u.cell hb).trans c0,(u.cell hb).trans c1,(u.cell hb).trans c2⟩
theorem cellsIt_at(f:List St.It)(j:Nat)(h:j<f.length):(cellsIt f)[j*3]?=some (.int .i64 f[j].1)/\(cellsIt f)[j*3+1]?=some (.string ⟨f[j].2.1.toArray⟩)/\(cellsIt f)[j*3+2]?=some (.int .i64 f[j].2.2):=by
 induction f generalizing j with
 | nil=>simp at h
 | cons x f ih=>
  match j,h with
  | 0,_=>exact⟨rfl,rfl,rfl⟩
  | j+1,h=>
   obtain⟨a,b,c⟩:=ih j (by simpa using h);have e:(j+1)*3=j*3+3:=by omega
   rw[e];exact⟨a,b,c⟩
theorem items_own{w:World}{B n c:Nat}{A:Option Addr}{f:List St.It}(h:w.ownsRow B 66 3 (.slice A n c) n (cellsIt f))(hn:f.length=n):ItemsAt w A f:=by
 intro h0;obtain⟨g,rfl,_,hg,hc⟩:=own_cell h (by omega);refine⟨g,0,rfl,hg,fun j hj=>?_⟩;obtain⟨a,b,c⟩:=cellsIt_at f j hj;rw[Nat.zero_add];exact⟨hc _ _ a,hc _ _ b,hc _ _ c⟩
def NatsAt(w:World)(A:Option Addr)(l:List Nat):Prop:=l.length > 0->∃ b off,A=some ⟨b,off,none⟩/\b<w.heap.size/\∀ j (h:j<l.length),w.cell? ⟨b,off+j,none⟩=some (.int .i64 (l[j]:Int))
theorem NatsAt.und{w w':World}{A:Option Addr}{f:List Nat}(h:NatsAt w A f)(u:Und w w'):NatsAt w' A f:=by
 intro h0;obtain⟨b,off,rfl,hb,hc⟩:=h h0;exact⟨b,off,rfl,Nat.lt_of_lt_of_le hb u.size,fun j hj=>(u.cell hb).trans (hc j hj)⟩
theorem nats_own{w:World}{B n c:Nat}{A:Option Addr}{l:List Nat}(h:w.ownsRow B 3 1 (.slice A n c) n (cellsN l))(hn:l.length=n):NatsAt w A l:=by
 intro h0;obtain⟨g,rfl,_,hg,hc⟩:=own_cell h (by omega);refine⟨g,0,rfl,hg,fun j hj=>?_⟩;rw[Nat.zero_add];exact hc j _ (by simp[cellsN,hj])
end
section
noncomputable def convFrom1(W:World)(b:Nat):Option Value->Result Value
 | some (.int .u8 c)=>.ok (.string ⟨#[UInt8.ofNat c.toNat]⟩) W
 | _=>(convert 137 9 (.slice (some ⟨b,0,none⟩) 1 1)).run Tryz.prog W
@[go_sem] theorem conv_cell1 (W:World) (b:Nat):(convert 137 9 (.slice (some ⟨b,0,none⟩) 1 1)).run Tryz.prog W=convFrom1 W b (W.cell? ⟨b,0,none⟩):=by
 unfold convFrom1
 split
 ·rename_i c h
  rw[run_convert_bytes_arg _ 137 5 Tryz.underlying137 Tryz.underlying5 b 0 1 1 [c] rfl (fun i hi=>by
   obtain rfl:i=0:=by omega
   simpa using h) _ Tryz.underlying9]
  rfl
 ·rfl
@[go_sem] theorem convFrom1_some (W:World) (b:Nat) (c:Int):convFrom1 W b (some (.int .u8 c))=.ok (.string ⟨#[UInt8.ofNat c.toNat]⟩) W:=rfl
theorem items_box(W:World)(b:Nat)(k:Int)(t:List UInt8)(hb:b<W.heap.size)(h0:W.cell? ⟨b,0,none⟩=some (.int .i64 k))(h1:W.cell? ⟨b,1,none⟩=some (.string ⟨t.toArray⟩))(h2:W.cell? ⟨b,2,none⟩=some (.int .i64 0)):ItemsAt W (some ⟨b,0,none⟩) [(k,t,0)]:=by
 intro _;refine⟨b,0,rfl,hb,fun j hj=>?_⟩;obtain rfl:j=0:=by simpa using hj
 exact⟨h0,h1,h2⟩
end
section
namespace St
theorem index_take:∀ l:List UInt8,Lib.indexByte l 125=if (l.takeWhile (fun c=>decide (c.toNat ≠ 125))).length<l.length then ((l.takeWhile (fun c=>decide (c.toNat ≠ 125))).length:Int) else -1
 | []=>rfl
 | c :: l=>by
  unfold Lib.indexByte
  by_cases h:c.toNat=125
  ·have h2:c=125:=by apply UInt8.toNat_inj.1;simpa using h
   subst h2;simp
  ·have h2:¬ c=125:=fun e=>h (by rw[e];rfl)
   have h3:(c==125)=false:=by simpa using h2
   rw[h3,index_take l,List.takeWhile_cons_of_pos (by simpa using h)];simp only[List.length_cons,Bool.false_eq_true,if_false]
   by_cases h4:(l.takeWhile (fun c=>decide (c.toNat ≠ 125))).length<l.length
   ·rw[if_pos h4,if_neg (by simp <;> omega),if_pos (by omega)];try simp
   ·rw[if_neg h4,if_pos (by simp),if_neg (by omega)]
theorem slot_of{c:UInt8}{r:List UInt8}(h:c.toNat=123):(Lib.indexByte (c :: r) 125=-1/\slotL (c :: r)=none)∨∃ n:Nat,Lib.indexByte (c :: r) 125=((n+1:Nat):Int)/\n+1<(c :: r).length/\r.take n=r.takeWhile (fun c=>decide (c.toNat ≠ 125)) /\
  slotL (c :: r)=if isNameL (r.take n)=true then some (r.take n,n+2) else none:=by
 rw[index_take,List.takeWhile_cons_of_pos (by simp;omega)];generalize hn:r.takeWhile (fun c=>decide (c.toNat ≠ 125))=t;have ht:r.take t.length=t:=by rw[<- hn];exact(List.prefix_iff_eq_take.1 (List.takeWhile_prefix _)).symm
 have hs:slotL (c :: r)=if decide (t.length+1<(c :: r).length) && isNameL t then some (t,t.length+2) else none:=by
  unfold slotL;simp only[List.drop_succ_cons,List.drop_zero,hn]
 rw[hs]
 by_cases h2:t.length+1<(c :: r).length
 ·right
  refine⟨t.length,by rw[List.length_cons,if_pos h2],h2,ht,?_⟩;rw[ht,decide_eq_true h2];rfl
 ·left
  refine⟨by rw[List.length_cons,if_neg h2],?_⟩;rw[decide_eq_false h2];rfl
end St
def preB(t s:ByteArray):Bool:=t.data.toList.isPrefixOf s.data.toList
end
section
theorem info_part:(Tryz.prog.info? 110).map (fun i=>(i.zero,i.size,i.bytes))=some (some (.agg #[.bool false,.string ⟨#[]⟩,.string ⟨#[]⟩]),3,40):=by kernel_rfl
def cellsP(f:List St.Pt):List Value:=f.flatMap fun x=>[.bool x.1,.string ⟨x.2.1.toArray⟩,.string ⟨x.2.2.toArray⟩]
theorem cellsP_app(f g:List St.Pt):cellsP (f++g)=cellsP f++cellsP g:=by simp[cellsP]
def PV(w:World)(B pb:Nat)(d:ByteArray)(s:St.PS):Prop:=
 B<=pb/\∃ v,w.heap[pb]?=some (Obj.cells #[.string d,.int .i64 s.2,v] 303 (0,0))/\w.ownsRow B 110 3 v s.1.length (cellsP s.1)
theorem PV.und{a c:World}{B pb:Nat}{d:ByteArray}{s:St.PS}(h:PV a B pb d s)(u:Und a c):PV c B pb d s:=by
 obtain⟨h0,v,h1,h2⟩:=h;exact⟨h0,v,(u.below.block pb (lt_of_heap h1)).trans h1,own_und u h2⟩
def ptT:List TypeId:=[303,110]
theorem cut_list(d:ByteArray)(a b:Nat):(d.extract a b).data.toList=St.cutL d.data.toList a b:=by
 unfold St.cutL;simp[List.drop_take]
theorem cut_arr(d:ByteArray)(a b:Nat):(⟨(St.cutL d.data.toList a b).toArray⟩:ByteArray)=d.extract a b:=by rw[<- cut_list,ba_eta]
end
end Go.Proofs.YtcfhfdphoidaeaaGreatDoor
