/- An append to a row of the call's own: its result lies where the row lay, or in new memory. -/
import Derived.Test.YtcfhfdphoidaeaaGreatDoorGA
import Derived.Laws.OwnMore
set_option linter.unusedVariables false
set_option linter.unusedSimpArgs false
set_option maxHeartbeats 12800000
set_option maxRecDepth 20000
namespace Go.Proofs.YtcfhfdphoidaeaaGreatDoor
open Go.RowKit
theorem heap_alloc_at(w:World)(o:Obj)(n:Nat)(h:n=w.heap.size):(w.alloc o).heap[n]?=some o:=by subst h;exact heap_alloc_new w o
theorem heap_alloc_lt(w:World)(o:Obj)(n:Nat)(h:n<w.heap.size):(w.alloc o).heap[n]?=w.heap[n]?:=by first|exact heap_alloc_old w o h|exact heap_alloc_old w o n h
def Fresh(w:World)(v v':Value):Prop:=v'.ownBlock=v.ownBlock∨∀ g,v'.ownBlock=some g->w.heap.size<=g
theorem run_append_block{P:Program}(w:World)(base:Nat)(t ty e:TypeId)(i:TypeInfo)(z:Value)(size bytes:Nat)(ht:P.underlying t=some (.slice e))(hi:P.info? e=some i)(hz:i.zero=some z)
  (hsize:i.size=size) (hby:i.bytes=bytes) (hzs:z.cells.size=size) (hsz:0<size)
  (v:Value) (n:Nat) (xs:List Value) (hown:w.ownsRow base e size v n xs)
  (a:Addr) (m c:Nat) (news:List Value) (hl:news.length=m*size) (hnews:∀ j u,news[j]?=some u->w.cell? (a.add j)=some u) (h1:∀ u ∈ news,u.oneCell'=true)
  (h63:n+m<=maxLen) (hbytes:(n+m)*bytes<=140737488355328) {v':Value} {w':World}
  (hr:(Builtin.append_ #[t,t] ty #[v,.slice (some a) m c]).run P w=.ok v' w'):Fresh w v v':=by
 have hsmall:n+m<=9223372036854775807:=by simp only[maxLen] at h63;omega
 rcases hown.2 with ⟨rfl,rfl⟩|⟨g,cap,cur,rfl,hbg,hg,hnc,hcm,hcs,htake⟩
 ·have hx:xs=[]:=List.eq_nil_of_length_eq_zero (by simpa using hown.1)
  subst hx;obtain⟨v2,w2,hr2,ho2,_⟩:=run_append_own (P:=P) w w.heap.size t ty e i z size bytes ht hi hz hsize hby hzs hsz _ 0 [] (World.ownsRow_nil w w.heap.size e size) a m c news hl hnews h1 h63 hbytes (Nat.le_refl _);rw[hr] at hr2;simp only[Result.ok.injEq] at hr2;obtain⟨rfl,rfl⟩:=hr2;exact .inr fun g hg=>owns_block ho2 g hg
 ·by_cases hroom:n+m<=cap
  ·obtain⟨w2,hr2,_⟩:=run_append_fits (P:=P) w base t ty e i size ht hi hsize g n cap xs hown a m c news hl hnews h1 hroom
   rw[hr] at hr2;simp only[Result.ok.injEq] at hr2;obtain⟨rfl,rfl⟩:=hr2;exact .inl rfl
  ·have holds:∀ j u,xs[j]?=some u->w.cell? ((⟨g,0,none⟩:Addr).add j)=some u:=hown.cells (g:=g) rfl
   subst hsize;subst hby;have hr2:=run_append_grow (P:=P) w t ty e i z ht hi hz ⟨g,0,none⟩ n cap xs hown.1 holds a m c news hl hnews (by omega) (by omega) (growslice_fits (by omega) hbytes);rw[hr] at hr2;simp only[Result.ok.injEq] at hr2;obtain⟨rfl,rfl⟩:=hr2;refine .inr fun g' hg'=>?_
   simp only[Value.ownBlock,Option.some.injEq] at hg';omega
theorem wp_append_own2{P:Program}{o:Oper}{a:Act}{w:World}{K:Act->World->Prop}{Q:Exit->Act->World->Prop}(s x:Operand)(t:TypeId)
  (ho:o.op=.call { callee:=.builtin .append,args:=#[s,x],argTypes:=#[t,t] })
  (base:Nat) (e:TypeId) (i:TypeInfo) (z:Value) (size bytes:Nat) (ht:P.underlying t=some (.slice e)) (hi:P.info? e=some i) (hz:i.zero=some z)
  (hsize:i.size=size) (hby:i.bytes=bytes) (hzs:z.cells.size=size) (hsz:0<size)
  (v:Value) (n:Nat) (xs:List Value) (hs:a.eval s=v) (hown:w.ownsRow base e size v n xs)
  (ad:Addr) (m c:Nat) (news:List Value) (hx:a.eval x=.slice (some ad) m c) (hl:news.length=m*size) (hnews:∀ j u,news[j]?=some u->w.cell? (ad.add j)=some u) (h1:∀ u ∈ news,u.oneCell'=true)
  (h63:n+m<=maxLen) (hbytes:(n+m)*bytes<=140737488355328) (hbase:base<=w.heap.size)
  (h:∀ v' w',w'.ownsRow base e size v' (n+m) (xs++news)->w.grownBy w' v.ownBlock->Fresh w v v'->K (a.put o.dst v') w'):o.wp P a w K Q:=by
 obtain⟨v',w',hr,h2,h3,h4⟩:=run_append_own (P:=P) w base t o.type e i z size bytes ht hi hz hsize hby hzs hsz v n xs hown ad m c news hl hnews h1 h63 hbytes hbase;have h5:=run_append_block (P:=P) w base t o.type e i z size bytes ht hi hz hsize hby hzs hsz v n xs hown ad m c news hl hnews h1 h63 hbytes hr;unfold Oper.wp execOp;simp only[ho,resolve,invoke,builtin,Sem.run_bind,Sem.run_pure,Result.andThen_ok,List.map_toArray,List.map_cons,List.map_nil,hs,hx,hr];exact h v' w' h2 h3 h5
theorem step_append_own2{P:Program}{ops:Array Oper}{o:Oper}{a:Act}{w:World}{K:Act->World->Prop}{Q:Exit->Act->World->Prop}{E:Prop}
  (hg:o.guard=none) (s x:Operand) (t:TypeId) (hop:o.op=Op.call { callee:=Callee.builtin Builtin.append,args:=#[s,x],argTypes:=#[t,t] })
  (base:Nat) (e:TypeId) (i:TypeInfo) (z:Value) (size bytes:Nat) (ht:P.underlying t=some (.slice e)) (hi:P.info? e=some i) (hz:i.zero=some z)
  (hsize:i.size=size) (hby:i.bytes=bytes) (hzs:z.cells.size=size) (hsz:0<size)
  (v:Value) (n:Nat) (xs:List Value) (hs:a.eval s=v) (hown:w.ownsRow base e size v n xs)
  (ad:Addr) (m c:Nat) (news:List Value) (hx:a.eval x=.slice (some ad) m c) (hl:news.length=m*size) (hnews:∀ j u,news[j]?=some u->w.cell? (ad.add j)=some u) (h1:∀ u ∈ news,u.oneCell'=true)
  (h63:n+m<=maxLen) (hbytes:(n+m)*bytes<=140737488355328) (hbase:base<=w.heap.size)
  (h:∀ v' w',w'.ownsRow base e size v' (n+m) (xs++news)->w.grownBy w' v.ownBlock->Fresh w v v'->K (a.put o.dst v') w') :
  if Region.wanted o (yielded ops a.tmps)=true then Oper.wp P o a w K Q else E:=by
 have hw:Region.wanted o (yielded ops a.tmps)=true:=by simp[Region.wanted,hg]
 rw[if_pos hw];exact wp_append_own2 s x t hop base e i z size bytes ht hi hz hsize hby hzs hsz v n xs hs hown ad m c news hx hl hnews h1 h63 hbytes hbase h
theorem own_shorter{w:World}{B e size n cap:Nat}{A:Option Addr}{xs:List Value}(h:w.ownsRow B e size (.slice A n cap) n xs)(m:Nat)(hm:m<=n):w.ownsRow B e size (.slice A m cap) m (xs.take (m*size)):=by
 refine⟨by rw[List.length_take,h.1];exact Nat.min_eq_left (Nat.mul_le_mul_right _ hm),?_⟩;rcases h.2 with ⟨e1,rfl⟩|⟨g,cap',cur,e1,h2,h3,h4,h5,h6,h7⟩
 ·simp only[Value.slice.injEq] at e1
  obtain⟨rfl,_,rfl⟩:=e1;obtain rfl:m=0:=by omega
  exact .inl ⟨rfl,rfl⟩
 ·simp only[Value.slice.injEq] at e1
  obtain⟨rfl,_,rfl⟩:=e1;refine .inr ⟨g,cap,cur,rfl,h2,h3,by omega,h5,h6,?_⟩;rw[<- h7,List.take_take,Nat.min_eq_left (Nat.mul_le_mul_right _ hm)]
end Go.Proofs.YtcfhfdphoidaeaaGreatDoor
namespace Go.Proofs.YtcfhfdphoidaeaaGreatDoor.Mk
open Go.RowKit
section
abbrev rdT:TypeId:=258
structure Mo where
 v:Value
 op:List St.It
 c:Nat
def Mo.l(m:Mo):List Value:=[m.v,.int .i64 (m.c:Int)]
variable {mo:Mo}
def Dis(a b:Value):Prop:=a.ownBlock=none∨a.ownBlock ≠ b.ownBlock
theorem dis_symm{a b:Value}(h:Dis a b):Dis b a:=by
 unfold Dis at h ⊢;cases hb:b.ownBlock with
 | none=>exact .inl rfl
 | some x=>
  refine .inr fun e=>?_
  rcases h with h|h
  ·rw[h] at e;cases e
  ·exact h (by rw[hb,e])
def BV(mo:Mo)(w:World)(B b:Nat)(v0 v1 v2:Value)(its:List St.It)(tx:List UInt8)(cuts:List Nat):Prop:=
 B<=b/\w.heap[b]?=some (Obj.cells ⟨v0 :: v1 :: v2 :: mo.l⟩ rdT (0,0))/\w.ownsRow B 66 3 v0 its.length (cellsIt its)/\w.ownsRow B 5 1 v1 tx.length (Lib.byteCells tx)/\w.ownsRow B 3 1 v2 cuts.length (cellsN cuts) /\
  w.ownsRow B 66 3 mo.v mo.op.length (cellsIt mo.op)/\Dis v0 mo.v
def BAt(mo:Mo)(w:World)(B b:Nat)(its:List St.It)(tx:List UInt8)(cuts:List Nat):Prop:=∃ v0 v1 v2,BV mo w B b v0 v1 v2 its tx cuts
theorem BV.und{a c:World}{B b:Nat}{v0 v1 v2:Value}{its:List St.It}{tx:List UInt8}{cuts:List Nat}(h:BV mo a B b v0 v1 v2 its tx cuts)(u:Und a c):BV mo c B b v0 v1 v2 its tx cuts:=by
 obtain⟨h0,h1,h2,h3,h4,h5,h6⟩:=h;exact⟨h0,(u.below.block b (lt_of_heap h1)).trans h1,own_und u h2,own_und u h3,own_und u h4,own_und u h5,h6⟩
theorem BAt.und{a c:World}{B b:Nat}{its:List St.It}{tx:List UInt8}{cuts:List Nat}(h:BAt mo a B b its tx cuts)(u:Und a c):BAt mo c B b its tx cuts:=by
 obtain⟨v0,v1,v2,h⟩:=h;exact⟨v0,v1,v2,h.und u⟩
theorem BV.grow1{w w4:World}{B b:Nat}{v0 v1 v2 v':Value}{its:List St.It}{tx tx':List UInt8}{cuts:List Nat}(h:BV mo w B b v0 v1 v2 its tx cuts)(hg:w.grownBy w4 v1.ownBlock)(ho:w4.ownsRow B 5 1 v' tx'.length (Lib.byteCells tx')) :
  BV mo (w4.setCell ⟨b,1,none⟩ v') B b v0 v' v2 its tx' cuts:=by
 obtain⟨h0,h1,h2,h3,h4,h5,h6⟩:=h;have hb4:w4.heap[b]?=some (Obj.cells ⟨v0 :: v1 :: v2 :: mo.l⟩ rdT (0,0)):=(hg.block b (lt_of_heap h1) (fun e=>own_ne h3 h1 (by decide) e.symm)).trans h1;exact⟨h0,heap_setCell_same w4 b 1 _ _ v' hb4,own_set (h2.kept hg (rows_ne h2 h3 (by decide))) (own_ne h2 h1 (by decide)),own_set ho (own_ne ho hb4 (by decide)),own_set (h4.kept hg (rows_ne h4 h3 (by decide))) (own_ne h4 h1 (by decide)),own_set (h5.kept hg (rows_ne h5 h3 (by decide))) (own_ne h5 h1 (by decide)),h6⟩
theorem BV.grow2{w w4:World}{B b:Nat}{v0 v1 v2 v':Value}{its:List St.It}{tx:List UInt8}{cuts cuts':List Nat}(h:BV mo w B b v0 v1 v2 its tx cuts)(hg:w.grownBy w4 v2.ownBlock)(ho:w4.ownsRow B 3 1 v' cuts'.length (cellsN cuts')) :
  BV mo (w4.setCell ⟨b,2,none⟩ v') B b v0 v1 v' its tx cuts':=by
 obtain⟨h0,h1,h2,h3,h4,h5,h6⟩:=h;have hb4:w4.heap[b]?=some (Obj.cells ⟨v0 :: v1 :: v2 :: mo.l⟩ rdT (0,0)):=(hg.block b (lt_of_heap h1) (fun e=>own_ne h4 h1 (by decide) e.symm)).trans h1;exact⟨h0,heap_setCell_same w4 b 2 _ _ v' hb4,own_set (h2.kept hg (rows_ne h2 h4 (by decide))) (own_ne h2 h1 (by decide)),own_set (h3.kept hg (rows_ne h3 h4 (by decide))) (own_ne h3 h1 (by decide)),own_set ho (own_ne ho hb4 (by decide)),own_set (h5.kept hg (rows_ne h5 h4 (by decide))) (own_ne h5 h1 (by decide)),h6⟩
theorem dis_fresh{w W:World}{B e n:Nat}{v0 v' v3:Value}{xs:List Value}(h5:w.ownsRow B e 3 v3 n xs)(hw:w.heap.size<=W.heap.size)(h6:Dis v0 v3)(hf:Fresh W v0 v'):Dis v' v3:=by
 unfold Dis at h6 ⊢;rcases hf with hf|hf
 ·rw[hf];exact h6
 ·cases hv:v'.ownBlock with
  | none=>exact .inl rfl
  | some g=>
   refine .inr fun e=>?_
   have:=hf g hv
   have:=(h5.lt g e.symm).2
   omega
theorem BV.grow0{w W w4:World}{B b:Nat}{v0 v1 v2 v':Value}{its its':List St.It}{tx:List UInt8}{cuts:List Nat}(h:BV mo w B b v0 v1 v2 its tx cuts)(hg:w.grownBy w4 v0.ownBlock)(hw:w.heap.size<=W.heap.size)(hf:Fresh W v0 v')(ho:w4.ownsRow B 66 3 v' its'.length (cellsIt its')) :
  BV mo (w4.setCell ⟨b,0,none⟩ v') B b v' v1 v2 its' tx cuts:=by
 obtain⟨h0,h1,h2,h3,h4,h5,h6⟩:=h;have hb4:w4.heap[b]?=some (Obj.cells ⟨v0 :: v1 :: v2 :: mo.l⟩ rdT (0,0)):=(hg.block b (lt_of_heap h1) (fun e=>own_ne h2 h1 (by decide) e.symm)).trans h1;exact⟨h0,heap_setCell_same w4 b 0 _ _ v' hb4,own_set ho (own_ne ho hb4 (by decide)),own_set (h3.kept hg (rows_ne h3 h2 (by decide))) (own_ne h3 h1 (by decide)),own_set (h4.kept hg (rows_ne h4 h2 (by decide))) (own_ne h4 h1 (by decide)),own_set (h5.kept hg (dis_symm h6)) (own_ne h5 h1 (by decide)),dis_fresh h5 hw h6 hf⟩
theorem BV.clear1{w:World}{B b:Nat}{v0 v1 v2:Value}{its:List St.It}{tx:List UInt8}{cuts:List Nat}(h:BV mo w B b v0 v1 v2 its tx cuts):BV mo (w.setCell ⟨b,1,none⟩ (.slice none 0 0)) B b v0 (.slice none 0 0) v2 its [] cuts:=by
 obtain⟨h0,h1,h2,h3,h4,h5,h6⟩:=h;exact⟨h0,heap_setCell_same w b 1 _ _ _ h1,own_set h2 (own_ne h2 h1 (by decide)),World.ownsRow_nil _ _ _ _,own_set h4 (own_ne h4 h1 (by decide)),own_set h5 (own_ne h5 h1 (by decide)),h6⟩
theorem full_any(w:World)(B b:Nat)(its:List St.It)(tx:List UInt8)(cuts:List Nat)(t:Bool)(h:BAt mo w B b its tx cuts)(h1:its.length<=600)(h2:cuts.length<=2000) :
  Calls Tryz.prog 273 #[.pointer (some ⟨b,0,none⟩),.bool t] w fun e w'=>e=.returned (.bool (St.fullB its.length tx.length cuts.length t))/\w=w':=by
 obtain⟨v0,v1,v2,_,hb,h3,h4,h5,_⟩:=h;obtain⟨A0,c0,rfl,_⟩:=own_slice h3;obtain⟨A1,c1,rfl,_⟩:=own_slice h4;obtain⟨A2,c2,rfl,_⟩:=own_slice h5;have g0:w.cell? ⟨b,0,none⟩=some (.slice A0 its.length c0):=zcH hb 0;have g1:w.cell? ⟨b,1,none⟩=some (.slice A1 tx.length c1):=zcH hb 1;have g2:w.cell? ⟨b,2,none⟩=some (.slice A2 cuts.length c2):=zcH hb 2;haveI:LtW b w:=LtW.of (lt_of_heap hb);clear hb h3 h4 h5;unfold St.fullB;generalize its.length=n0 at *;generalize tx.length=n1 at *;generalize cuts.length=n2 at *;rcases Nat.eq_zero_or_pos n1 with z|z
 ·subst z
  cases t <;>
  ·by_cases q1:512<n0+1 <;> by_cases q2:1024<n2+1 <;>
   ·have q1':=q1
    have q2':=q2;go_enter Tryz.func273,Tryz.ntmps273;go_wp2;go_ret;exact⟨ret_bool (by simp <;> omega),rfl⟩
 ·have z':(0:Int)<(n1:Int):=by omega
  cases t
  ·by_cases q1:512<n0+1+1 <;> by_cases q2:1024<n2+1 <;>
   ·go_enter Tryz.func273,Tryz.ntmps273
    go_wp2;go_ret;exact⟨ret_bool (by simp <;> omega),rfl⟩
  ·by_cases q1:512<n0+1 <;> by_cases q2:1024<n2+1 <;>
   ·go_enter Tryz.func273,Tryz.ntmps273
    go_wp2;go_ret;exact⟨ret_bool (by simp <;> omega),rfl⟩
end
section
variable {mo:Mo}
theorem below_step{B b i:Nat}{w w2 w4:World}{row:Option Nat}{v:Value}(h:Below B w w2)(hBw:B<=w2.heap.size)(hg:w2.grownBy w4 row)(hr:∀ g,row=some g->B<=g)(hB:B<=b):Below B w (w4.setCell ⟨b,i,none⟩ v):=
 (h.grown hg hBw hr).setCell (p:=⟨b,i,none⟩) hB v
theorem byte_any(w:World)(B b:Nat)(its:List St.It)(tx:List UInt8)(cuts:List Nat)(c:UInt8)(off:Nat)(h:BAt mo w B b its tx cuts)(h1:its.length<=600)(h2:cuts.length<=2000)(h3:tx.length<=2000)(hBw:B<=w.heap.size) :
  Calls Tryz.prog 247 #[.pointer (some ⟨b,0,none⟩),.int .u8 c.toNat,.int .i64 off] w fun e w'=>
   e=.returned (.bool (!St.fullB its.length tx.length cuts.length true))/\(St.fullB its.length tx.length cuts.length true=false->BAt mo w' B b its (tx++[c]) (cuts++[off]))/\Below B w w':=by
 have hf:=full_any w B b its tx cuts true h h1 h2;cases hb:St.fullB its.length tx.length cuts.length true
 ·rw[hb] at hf
  obtain⟨v0,v1,v2,hv⟩:=h;have HV:=hid hv;obtain⟨hB,hbk,ho0,ho1,ho2,ho3,hds⟩:=hv;obtain⟨A1,c1,rfl,_⟩:=own_slice ho1;obtain⟨A2,c2,rfl,_⟩:=own_slice ho2;have g1:w.cell? ⟨b,1,none⟩=some (.slice A1 tx.length c1):=zcH hbk 1;have g2:w.cell? ⟨b,2,none⟩=some (.slice A2 cuts.length c2):=zcH hbk 2;have f1:w.frozen? ⟨b,1,none⟩=false:=zfH hbk 1;have hlt:=lt_of_heap hbk;haveI:LtW b w:=LtW.of hlt;obtain⟨i8,hi,hz0,hz1,hz2⟩:=info_parts info_byte;obtain⟨ii,ki,kz0,kz1,kz2⟩:=info_parts info_int;have HF:=hid hf;have HO1:=hid ho1;have HB:=hid hB;generalize hn1:tx.length=n1 at *;generalize hn2:cuts.length=n2 at *;clear hf hbk ho0 ho1 ho2 ho3 hds hB;go_enter Tryz.func247,Tryz.ntmps247;go_wp2_with fail;refine HF.out.mono ?_;rintro e w' ⟨rfl,rfl⟩;go_wp2_with (at_builtin;refine wpList_append_own _ rfl _ _ 137 rfl B 5 i8 (.int .u8 0) 1 1 Tryz.underlying137 hi hz0 hz1 hz2 rfl (by decide) (.slice A1 n1 c1) n1 _ rfl (HO1.out.alloc _) _ 1 1 [.int .u8 c.toNat] rfl rfl ?_ (by simp;rfl) (by unfold maxLen;omega) (by omega) ?_ ?_)
  ·exact side1b _ _ _
  ·simp;omega
  ·intro v' w4 hown' hgrow _
   have hBV4:BV mo (w4.setCell ⟨b,1,none⟩ v') B b v0 v' (.slice A2 n2 c2) its (tx++[c]) cuts:=by
    refine BV.grow1 (HV.out.und ((Und.refl w).alloc _)) hgrow ?_;rw[bytes_snoc,List.length_append,List.length_singleton,hn1];exact hown'
   have hbl4:Below B w (w4.setCell ⟨b,1,none⟩ v'):=below_step ((Below.refl B w).alloc hBw _) (by simp;omega) hgrow (fun g hg=>owns_block HO1.out g hg) HB.out
   have hb4:w4.heap[b]?=some (Obj.cells ⟨v0 :: .slice A1 n1 c1 :: .slice A2 n2 c2 :: mo.l⟩ rdT (0,0)):=by
    obtain⟨q0,q1,_,q3,_⟩:=HV.out.und ((Und.refl w).alloc (.cells #[.int .u8 c.toNat] 5));exact(hgrow.block b (lt_of_heap q1) (fun e=>own_ne q3 q1 (by decide) e.symm)).trans q1
   obtain⟨A1',c1',rfl,_⟩:=own_slice hown';have e1:w4.cell? ⟨b,1,none⟩=some (.slice A1 n1 c1):=zcH hb4 1;have e1f:w4.frozen? ⟨b,1,none⟩=false:=zfH hb4 1;have e2:w4.cell? ⟨b,2,none⟩=some (.slice A2 n2 c2):=zcH hb4 2;have e2f:w4.frozen? ⟨b,2,none⟩=false:=zfH hb4 2;haveI:LtW b w4:=LtW.of (lt_of_heap hb4);have HBV4:=hid hBV4;have HBL4:=hid hbl4;have HO2:=hid hBV4.2.2.2.2.1;have hsz4:B<=w4.heap.size:=by have:=hbl4.size;simp at this;omega
   clear hBV4 hbl4 hb4 hown' hgrow g1 g2 f1;go_wp2_with (at_builtin;refine wpList_append_own _ rfl _ _ 22 rfl B 3 ii (.int .i64 0) 1 8 Tryz.underlying22 ki kz0 kz1 kz2 rfl (by decide) (.slice A2 n2 c2) n2 _ rfl (by have:=HO2.out.alloc (.cells #[.int .i64 off] 3);rw[hn2] at this;exact this) _ 1 1 [.int .i64 off] rfl rfl ?_ (by simp;rfl) (by unfold maxLen;omega) (by omega) ?_ ?_)
   ·exact side1c _ _ _ _ (by simp)
   ·simp;omega
   ·intro v2' w6 hown2 hgrow2 _
    have hBV6:BV mo (w6.setCell ⟨b,2,none⟩ v2') B b v0 (.slice A1' (n1+1) c1') v2' its (tx++[c]) (cuts++[off]):=by
     refine BV.grow2 (HBV4.out.und ((Und.refl _).alloc _)) hgrow2 ?_;rw[cellsN_snoc,List.length_append,List.length_singleton,hn2];exact hown2
    have hbl6:Below B w (w6.setCell ⟨b,2,none⟩ v2'):=below_step (HBL4.out.alloc (by simp;omega) _) (by simp;omega) hgrow2 (fun g hg=>owns_block HO2.out g hg) HB.out
    have hb6:w6.heap[b]?=some (Obj.cells ⟨v0 :: .slice A1' (n1+1) c1' :: .slice A2 n2 c2 :: mo.l⟩ rdT (0,0)):=by
     obtain⟨q0,q1,_,_,q4,_⟩:=HBV4.out.und ((Und.refl _).alloc (.cells #[.int .i64 off] 3));exact(hgrow2.block b (lt_of_heap q1) (fun e=>own_ne q4 q1 (by decide) e.symm)).trans q1
    obtain⟨A2',c2',rfl,_⟩:=own_slice hown2;have d2:w6.cell? ⟨b,2,none⟩=some (.slice A2 n2 c2):=zcH hb6 2;have d2f:w6.frozen? ⟨b,2,none⟩=false:=zfH hb6 2;haveI:LtW b w6:=LtW.of (lt_of_heap hb6);have HE:=hid (And.intro hBV6 hbl6);clear hBV6 hbl6 hb6 hown2 hgrow2 e1 e2 e1f e2f HBV4 HBL4;go_wp2;go_ret;exact⟨rfl,fun _=>⟨_,_,_,HE.out.1⟩,HE.out.2⟩
 ·rw[hb] at hf
  have HF:=hid hf;clear hf h;go_enter Tryz.func247,Tryz.ntmps247;go_wp2_with fail;refine HF.out.mono ?_;rintro e w' ⟨rfl,rfl⟩;go_wp2;go_ret;exact⟨rfl,(fun h=>nomatch h),Below.refl _ _⟩
theorem conv_own{w:World}{B n c:Nat}{A:Option Addr}{l:List UInt8}(h:w.ownsRow B 5 1 (.slice A n c) n (Lib.byteCells l))(h0:0<n) :
  (convert 137 9 (.slice A n c)).run Tryz.prog w=.ok (.string ⟨l.toArray⟩) w:=by
 have hl:l.length=n:=by have:=h.1;rw[Lib.byteCells_length] at this;simpa using this
 obtain⟨g,rfl,_,_,hc⟩:=own_cell h h0
 rw[run_convert_bytes_arg w 137 5 Tryz.underlying137 Tryz.underlying5 g 0 n c (l.map fun x=>(x.toNat:Int)) (by simpa using hl) (fun i hi=>by
  rw[Nat.zero_add];refine hc i _ ?_;have hil:i<l.length:=by omega
  simp[Lib.byteCells,List.getD_eq_getElem?_getD,hil]) _ Tryz.underlying9]
 simp[strOfNums,Function.comp_def]
theorem BV.after{w w1:World}{B b:Nat}{v0 v1 v2:Value}{its:List St.It}{tx:List UInt8}{cuts:List Nat}(h:BV mo w B b v0 v1 v2 its tx cuts){row:Option Nat}(hg:w.grownBy w1 row)(hr:row=v0.ownBlock∨row=v1.ownBlock∨row=v2.ownBlock) :
  w1.heap[b]?=some (Obj.cells ⟨v0 :: v1 :: v2 :: mo.l⟩ rdT (0,0)):=by
 obtain⟨_,h1,h2,h3,h4,_⟩:=h;refine(hg.block b (lt_of_heap h1) (fun e=>?_)).trans h1;rcases hr with rfl|rfl|rfl
 ·exact own_ne h2 h1 (by decide) e.symm
 ·exact own_ne h3 h1 (by decide) e.symm
 ·exact own_ne h4 h1 (by decide) e.symm
theorem BV.cells{w:World}{B b:Nat}{v0 v1 v2:Value}{its:List St.It}{tx:List UInt8}{cuts:List Nat}(h:BV mo w B b v0 v1 v2 its tx cuts):∃ A0 c0 A1 c1 A2 c2,v0=.slice A0 its.length c0/\v1=.slice A1 tx.length c1/\v2=.slice A2 cuts.length c2:=by
 obtain⟨_,_,h2,h3,h4,_⟩:=h;obtain⟨A0,c0,e0,_⟩:=own_slice h2;obtain⟨A1,c1,e1,_⟩:=own_slice h3;obtain⟨A2,c2,e2,_⟩:=own_slice h4;exact⟨A0,c0,A1,c1,A2,c2,e0,e1,e2⟩
theorem flush_any(w W:World)(B b:Nat)(its:List St.It)(tx:List UInt8)(cuts:List Nat)(h:BAt mo w B b its tx cuts)(hu:Und w W)(h1:its.length<=600)(h3:tx.length<=2000)(hBw:B<=w.heap.size) :
  Calls Tryz.prog 217 #[.pointer (some ⟨b,0,none⟩)] W fun e w'=>
   e=.returned (.tuple #[])/\BAt mo w' B b (its++St.txt tx) [] cuts/\Below B W w'/\∀ k,w.heap.size<=k->k<W.heap.size->w'.heap[k]?=W.heap[k]?:=by
 obtain⟨v0,v1,v2,hv⟩:=h;have hlw:=lt_of_heap hv.2.1;have hol:∀ g,v0.ownBlock=some g->g<w.heap.size:=fun g hg=>(hv.2.2.1.lt g hg).2
 replace hv:=hv.und hu
 have hBW:B<=W.heap.size:=Nat.le_trans hBw hu.size;have HV:=hid hv;obtain⟨A0,c0,A1,c1,A2,c2,rfl,rfl,rfl⟩:=hv.cells;obtain⟨hB,hbk,ho0,ho1,ho2,ho3,hds⟩:=hv;have g0:W.cell? ⟨b,0,none⟩=some (.slice A0 its.length c0):=zcH hbk 0;have g1:W.cell? ⟨b,1,none⟩=some (.slice A1 tx.length c1):=zcH hbk 1;haveI:LtW b W:=LtW.of (lt_of_heap hbk);have HO0:=hid ho0;have HO1:=hid ho1;have HB:=hid hB;have HOL:=hid hol;have hlW:=hu.size;rcases Nat.eq_zero_or_pos tx.length with z|z
 ·have htx:tx=[]:=List.eq_nil_of_length_eq_zero z
  subst htx;clear ho0 ho1 ho2 ho3 hds hbk hB hol;go_enter Tryz.func217,Tryz.ntmps217;go_wp2;go_end0;exact⟨rfl,⟨_,_,_,by simpa [St.txt] using HV.out⟩,Below.refl _ _,fun _ _ _=>rfl⟩
 ·have z':(0:Int)<(tx.length:Int):=by omega
  have hcv:=conv_own ho1 z;have hcv':(convert 137 9 (.slice A1 tx.length c1)).run Tryz.prog W.drew=.ok (.string ⟨tx.toArray⟩) W.drew:=conv_own (w:=W.drew) ho1 z;obtain⟨i0,hi,hz0,hz1,hz2⟩:=info_parts info_item;have hdw:Und W W.drew:=(by apply_rules[uUe,uUa,uUb,uUc,uUd]);have HVD:=hid (HV.out.und hdw);generalize hn0:its.length=n0 at *;generalize hn1:tx.length=n1 at *;clear ho0 ho1 ho2 ho3 hds hbk hB hol hcv;go_enter Tryz.func217,Tryz.ntmps217;go_wp2_with fail;go_region_law (refine step_append_own2 rfl (.tmp 12) (.tmp 19) 24 rfl B 66 i0 (.agg #[.int .i64 0,.string ⟨#[]⟩,.int .i64 0]) 3 32 Tryz.underlying24 hi hz0 hz1 hz2 rfl (by decide) (.slice A0 n0 c0) n0 _ rfl (owns_und (HO0.out.alloc (.cells #[.int .i64 1,.string ⟨tx.toArray⟩,.int .i64 0] 66)) (Und.refl _).drew) ⟨W.heap.size,0,none⟩ 1 1 [.int .i64 1,.string ⟨tx.toArray⟩,.int .i64 0] rfl rfl (side3b W _ _ _ 66 _ rfl) (item_one 1 0 _) (by unfold maxLen;omega) (by omega) (by simp;omega) ?_;intro v' w1 hown' hgrow hfr0;have hgr:=gb_trans (Und.gb ((by apply_rules[uUe,uUa,uUb,uUc,uUd]):Und W (W.alloc (.cells #[.int .i64 1,.string ⟨tx.toArray⟩,.int .i64 0] 66)).drew) (Value.slice A0 n0 c0).ownBlock) hgrow (fun g e=>Or.inl e);have hb4:=HV.out.after hgr (Or.inl rfl);have e0:w1.cell? ⟨b,0,none⟩=some (.slice A0 n0 c0):=zcH hb4 0;have e1:w1.cell? ⟨b,1,none⟩=some (.slice A1 n1 c1):=zcH hb4 1;have f0:w1.frozen? ⟨b,0,none⟩=false:=zfH hb4 0;have f1:w1.frozen? ⟨b,1,none⟩=false:=zfH hb4 1;haveI:LtW b w1:=LtW.of (lt_of_heap hb4);obtain⟨A',c',rfl,_⟩:=own_slice hown')
  all_goals
   have hBV4:BV mo (w1.setCell ⟨b,0,none⟩ (.slice A' (n0+1) c')) B b (.slice A' (n0+1) c') (.slice A1 n1 c1) (.slice A2 cuts.length c2) (its++[(1,tx,0)]) tx cuts:=by
    refine BV.grow0 HV.out hgr (by simp) hfr0 ?_;rw[cellsIt_snoc,List.length_append,List.length_singleton,hn0];exact hown'
   have hbl:Below B W (w1.setCell ⟨b,0,none⟩ (.slice A' (n0+1) c')):=below_step (Below.refl B W) hBW hgr (fun g hg=>owns_block HO0.out g hg) HB.out;have hfr:∀ k,w.heap.size<=k->k<W.heap.size->w1.heap[k]?=W.heap[k]?:=fun k hk hk2=>hgr.block k hk2 (fun e=>by have:=HOL.out k e.symm;omega)
   have HE:=hid (And.intro hBV4 (And.intro hbl hfr));clear hBV4 hbl hfr hgr hgrow hown' hb4 hfr0;go_wp2;go_end0;have ht:St.txt tx=[(1,tx,0)]:=by unfold St.txt;rw[if_neg (by intro e;rw[e] at hn1;simp at hn1;omega)]
   have hba:BAt mo ((w1.setCell ⟨b,0,none⟩ (.slice A' (n0+1) c')).setCell ⟨b,1,none⟩ (.slice none 0 0)) B b (its++St.txt tx) [] cuts:=by
    rw[ht];exact⟨_,_,_,HE.out.1.clear1⟩
   refine⟨rfl,hba,HE.out.2.1.setCell (p:=⟨b,1,none⟩) HB.out _,fun k hk hk2=>?_⟩
   ·rw[heap_setCell_other _ _ _ _ (by show k ≠ b;omega),heap_setCell_other _ _ _ _ (by show k ≠ b;omega)]
    exact HE.out.2.2 k hk hk2
end
section
variable {mo:Mo}
theorem txt_len1(t:List UInt8):(St.txt t).length<=1:=by rw[St.txt_len];split <;> omega
theorem item_any(w:World)(B b:Nat)(its:List St.It)(tx:List UInt8)(cuts:List Nat)(k i:Int)(s:ByteArray)(off:Nat)(h:BAt mo w B b its tx cuts)(h1:its.length<=600)(h2:cuts.length<=2000)(h3:tx.length<=2000)(hBw:B<=w.heap.size) :
  Calls Tryz.prog 248 #[.pointer (some ⟨b,0,none⟩),.agg #[.int .i64 k,.string s,.int .i64 i],.int .i64 off] w fun e w'=>
   e=.returned (.bool (!St.fullB its.length tx.length cuts.length false))/\(St.fullB its.length tx.length cuts.length false=false->BAt mo w' B b (its++St.txt tx++[(k,s.data.toList,i)]) [] (cuts++[off]))/\Below B w w':=by
 have huA:Und w (w.alloc (.cells #[.int .i64 k,.string s,.int .i64 i] 66)):=(by apply_rules[uUe,uUa,uUb,uUc,uUd]);have hf:=full_any _ B b its tx cuts false (h.und huA) h1 h2;have hfl:=flush_any w _ B b its tx cuts h huA h1 h3 hBw;have HFL:=hid hfl;cases hb:St.fullB its.length tx.length cuts.length false
 ·rw[hb] at hf
  have HF:=hid hf;clear hf hfl h;go_enter Tryz.func248,Tryz.ntmps248;go_wp2_with fail;refine HF.out.mono ?_;rintro e w' ⟨rfl,rfl⟩;go_wp2_with fail;refine HFL.out.mono ?_;rintro e w2 ⟨rfl,⟨v0,v1,v2,hv⟩,hbl,hfr⟩;have hbox:w2.heap[w.heap.size]?=some (Obj.cells #[.int .i64 k,.string s,.int .i64 i] 66 (0,0)):=(hfr _ (Nat.le_refl _) (by simp)).trans (heap_alloc_new w _);have x0:w2.cell? ⟨w.heap.size,0,none⟩=some (.int .i64 k):=zcH hbox 0;have x1:w2.cell? ⟨w.heap.size,1,none⟩=some (.string s):=zcH hbox 1;have x2:w2.cell? ⟨w.heap.size,2,none⟩=some (.int .i64 i):=zcH hbox 2;haveI:LtW w.heap.size w2:=LtW.of (lt_of_heap hbox);have HV:=hid hv;obtain⟨A0,c0,A1,c1,A2,c2,rfl,rfl,rfl⟩:=hv.cells;obtain⟨hB,hbk,ho0,ho1,ho2,ho3,hds⟩:=hv;have g0:w2.cell? ⟨b,0,none⟩=some (.slice A0 (its++St.txt tx).length c0):=zcH hbk 0;have hsz2:B<=w2.heap.size:=Nat.le_trans (Nat.le_trans hBw huA.size) hbl.size;have HBL:=hid ((Below.refl B w).alloc hBw (.cells #[.int .i64 k,.string s,.int .i64 i] 66) |>.trans hbl);have hn0l:(its++St.txt tx).length<=601:=by have:=txt_len1 tx;simp;omega
  haveI:LtW b w2:=LtW.of (lt_of_heap hbk);have HO0:=hid ho0;have HB:=hid hB;generalize hits:its++St.txt tx=its2 at *;obtain⟨i0,hi,hz0,hz1,hz2⟩:=info_parts info_item;obtain⟨ii,ki,kz0,kz1,kz2⟩:=info_parts info_int;generalize hn0:its2.length=n0 at *;generalize hn2:cuts.length=n2 at *;clear hbk ho0 ho1 ho2 ho3 hds hB hbl hfr hbox HF HFL;go_wp2_with fail;go_region_law (refine step_append_own2 rfl (.tmp 15) (.tmp 17) 24 rfl B 66 i0 (.agg #[.int .i64 0,.string ⟨#[]⟩,.int .i64 0]) 3 32 Tryz.underlying24 hi hz0 hz1 hz2 rfl (by decide) (.slice A0 n0 c0) n0 _ rfl (owns_und (HO0.out.alloc (.cells #[.int .i64 k,.string s,.int .i64 i] 66)) (Und.refl _).drew) ⟨w2.heap.size,0,none⟩ 1 1 [.int .i64 k,.string s,.int .i64 i] rfl rfl (side3b w2 _ _ _ 66 _ rfl) (item_one k i _) (by unfold maxLen;omega) (by omega) (by simp;omega) ?_;intro v' w1 hown' hgrow hfr0;have hgr:=gb_trans (Und.gb ((by apply_rules[uUe,uUa,uUb,uUc,uUd]):Und w2 (w2.alloc (.cells #[.int .i64 k,.string s,.int .i64 i] 66)).drew) (Value.slice A0 n0 c0).ownBlock) hgrow (fun g e=>Or.inl e);have hb4:=HV.out.after hgr (Or.inl rfl);have e0:w1.cell? ⟨b,0,none⟩=some (.slice A0 n0 c0):=zcH hb4 0;have f0:w1.frozen? ⟨b,0,none⟩=false:=zfH hb4 0;haveI:LtW b w1:=LtW.of (lt_of_heap hb4);obtain⟨A',c',rfl,_⟩:=own_slice hown')
  all_goals
   have hBV4:BV mo (w1.setCell ⟨b,0,none⟩ (.slice A' (n0+1) c')) B b (.slice A' (n0+1) c') (.slice A1 ([]:List UInt8).length c1) (.slice A2 n2 c2) (its2++[(k,s.data.toList,i)]) [] cuts:=by
    refine BV.grow0 HV.out hgr (by simp) hfr0 ?_;rw[cellsIt_snoc,List.length_append,List.length_singleton,hn0];simp only[ba_eta];exact hown'
   have hbl4:Below B w (w1.setCell ⟨b,0,none⟩ (.slice A' (n0+1) c')):=below_step HBL.out hsz2 hgr (fun g hg=>owns_block HO0.out g hg) HB.out;have e2:w1.cell? ⟨b,2,none⟩=some (.slice A2 n2 c2):=zcH hb4 2;have f2:w1.frozen? ⟨b,2,none⟩=false:=zfH hb4 2;have HBV4:=hid hBV4;have HBL4:=hid hbl4;have HO2:=hid hBV4.2.2.2.2.1;have hsz4:B<=w1.heap.size:=by have:=hbl4.size;simp at this;omega
   clear hBV4 hbl4 hb4 hown' hgrow hgr hfr0 g0 x0 x1 x2 HV HO0 HBL;go_wp2_with (at_builtin;refine wpList_append_own _ rfl _ _ 22 rfl B 3 ii (.int .i64 0) 1 8 Tryz.underlying22 ki kz0 kz1 kz2 rfl (by decide) (.slice A2 n2 c2) n2 _ rfl (by have:=HO2.out.alloc (.cells #[.int .i64 off] 3);rw[hn2] at this;exact this) _ 1 1 [.int .i64 off] rfl rfl ?_ (by simp;rfl) (by unfold maxLen;omega) (by omega) ?_ ?_)
   ·exact side1c _ _ _ _ (by simp)
   ·simp;omega
   ·intro v2' w6 hown2 hgrow2 _
    have hBV6:BV mo (w6.setCell ⟨b,2,none⟩ v2') B b (.slice A' (n0+1) c') (.slice A1 ([]:List UInt8).length c1) v2' (its2++[(k,s.data.toList,i)]) [] (cuts++[off]):=by
     refine BV.grow2 (HBV4.out.und ((Und.refl _).alloc _)) hgrow2 ?_;rw[cellsN_snoc,List.length_append,List.length_singleton,hn2];exact hown2
    have hbl6:Below B w (w6.setCell ⟨b,2,none⟩ v2'):=below_step (HBL4.out.alloc (by simp;omega) _) (by simp;omega) hgrow2 (fun g hg=>owns_block HO2.out g hg) HB.out;have hb6:=(HBV4.out.und ((Und.refl _).alloc (.cells #[.int .i64 off] 3))).after hgrow2 (Or.inr (Or.inr rfl));obtain⟨A2',c2',rfl,_⟩:=own_slice hown2;have d2:w6.cell? ⟨b,2,none⟩=some (.slice A2 n2 c2):=zcH hb6 2;have d2f:w6.frozen? ⟨b,2,none⟩=false:=zfH hb6 2;haveI:LtW b w6:=LtW.of (lt_of_heap hb6);have HE:=hid (And.intro (show BAt mo _ B b (its2++[(k,s.data.toList,i)]) [] (cuts++[off]) from⟨_,_,_,hBV6⟩) hbl6);clear hBV6 hbl6 hb6 hown2 hgrow2 e0 f0 e2 f2 HBV4 HBL4;go_wp2;go_ret;subst hits;exact⟨rfl,fun _=>HE.out.1,HE.out.2⟩
 ·rw[hb] at hf
  have HF:=hid hf;clear hf hfl HFL;go_enter Tryz.func248,Tryz.ntmps248;go_wp2_with fail;refine HF.out.mono ?_;rintro e w' ⟨rfl,rfl⟩;go_wp2;go_ret;exact⟨rfl,(fun h=>nomatch h),(Below.refl B w).alloc hBw _⟩
theorem items_any(w:World)(B b:Nat)(its:List St.It)(tx:List UInt8)(cuts:List Nat)(h:BAt mo w B b its tx cuts)(h1:its.length<=600)(h3:tx.length<=2000)(hBw:B<=w.heap.size) :
  Calls Tryz.prog 168 #[.pointer (some ⟨b,0,none⟩)] w fun e w'=>∃ A c,e=.returned (.slice A (its++St.txt tx).length c)/\ItemsAt w' A (its++St.txt tx)/\(its++St.txt tx).length<=c/\c<=9223372036854775807/\Below B w w':=by
 have HFL:=hid (flush_any w w B b its tx cuts h (Und.refl w) h1 h3 hBw);clear h;go_enter Tryz.func168,Tryz.ntmps168;go_wp2_with fail;refine HFL.out.mono ?_;rintro e w2 ⟨rfl,⟨v0,v1,v2,hv⟩,hbl,_⟩;obtain⟨A0,c0,A1,c1,A2,c2,rfl,rfl,rfl⟩:=hv.cells;obtain⟨hB,hbk,ho0,ho1,ho2,ho3,hds⟩:=hv;have g0:w2.cell? ⟨b,0,none⟩=some (.slice A0 (its++St.txt tx).length c0):=zcH hbk 0;haveI:LtW b w2:=LtW.of (lt_of_heap hbk);obtain⟨_,_,hq,hq1,hq2⟩:=own_slice ho0;simp only[Value.slice.injEq] at hq;obtain⟨rfl,_,rfl⟩:=hq;have HE:=hid (And.intro (items_own ho0 rfl) hbl);clear hbk ho0 ho1 ho2 ho3 hds hB hbl HFL;generalize hff:its++St.txt tx=f at *;go_wp2;go_ret;subst hff;exact⟨_,_,rfl,HE.out.1,hq1,by unfold maxLen at hq2;omega,HE.out.2⟩
theorem bcuts_any(w:World)(B b:Nat)(its:List St.It)(tx:List UInt8)(cuts:List Nat)(last:Nat)(h:BAt mo w B b its tx cuts)(h2:cuts.length<=2000)(hBw:B<=w.heap.size) :
  Calls Tryz.prog 174 #[.pointer (some ⟨b,0,none⟩),.int .i64 last] w fun e w'=>∃ A c,e=.returned (.slice A (cuts.length+1) c)/\NatsAt w' A (cuts++[last])/\cuts.length+1<=c/\c<=9223372036854775807/\Below B w w':=by
 obtain⟨v0,v1,v2,hv⟩:=h;obtain⟨A0,c0,A1,c1,A2,c2,rfl,rfl,rfl⟩:=hv.cells;obtain⟨hB,hbk,ho0,ho1,ho2,ho3,hds⟩:=hv;have g2:w.cell? ⟨b,2,none⟩=some (.slice A2 cuts.length c2):=zcH hbk 2;haveI:LtW b w:=LtW.of (lt_of_heap hbk);obtain⟨ii,ki,kz0,kz1,kz2⟩:=info_parts info_int;have HO2:=hid ho2;clear hbk ho0 ho1 ho2 ho3 hds hB;generalize hn2:cuts.length=n2 at *;go_enter Tryz.func174,Tryz.ntmps174;go_wp2_with (at_builtin;refine wpList_append_own _ rfl _ _ 22 rfl B 3 ii (.int .i64 0) 1 8 Tryz.underlying22 ki kz0 kz1 kz2 rfl (by decide) (.slice A2 n2 c2) n2 _ rfl (HO2.out.alloc _) _ 1 1 [.int .i64 last] rfl rfl ?_ (by simp;rfl) (by unfold maxLen;omega) (by omega) ?_ ?_)
 ·exact side1b _ _ _
 ·simp;omega
 ·intro v' w4 hown' hgrow _
  obtain⟨A',c',rfl,hq1,hq2⟩:=own_slice hown';have hna:NatsAt w4 A' (cuts++[last]):=nats_own (n:=n2+1) (by rw[cellsN_snoc];exact hown') (by simp[hn2]);have hbl:Below B w w4:=((Below.refl B w).alloc hBw _).grown hgrow (by simp;omega) (fun g hg=>owns_block HO2.out g hg);have HE:=hid (And.intro hna hbl);clear hna hbl hown' hgrow;go_wp2;go_ret;exact⟨_,_,rfl,HE.out.1,hq1,by unfold maxLen at hq2;omega,HE.out.2⟩
end
end Go.Proofs.YtcfhfdphoidaeaaGreatDoor.Mk
