/- An append to a row of the call's own: its result lies where the row lay, or in new memory. -/
import Derived.Test.YthoemdibbldndaaGreatDoorGA
import Derived.Laws.OwnMore
set_option linter.all false
set_option maxHeartbeats 0
set_option maxRecDepth 20000
open Go.Value renaming int->Yh,string->Yi,slice->Yj,bool->Yk,pointer->Yl
open Go.IntKind renaming i64->Yn
open Go.Obj renaming cells->Yo
open Go.Ending renaming returned->Yp
open Go renaming World->Ys
namespace Go.Proofs.YthoemdibbldndaaGreatDoor
open Go.RowKit
theorem bJ(w:Ys)(o:Obj)(n:Nat)(h:n=w.1.size):(w.alloc o).1[n]?=some o:=by subst h;exact heap_alloc_new w o
theorem gi(w:Ys)(o:Obj)(n:Nat)(h:n<w.1.size):(w.alloc o).1[n]?=w.1[n]?:=by first|exact heap_alloc_old w o h|exact heap_alloc_old w o n h
def pB(w:Ys)(v v':Value):Prop:=v'.ownBlock=v.ownBlock\/∀g,v'.ownBlock=some g->w.1.size<=g
theorem vX{P:Program}(w:World)(base:Nat)(t ty e:TypeId)(i:TypeInfo)(z:Value)(size bytes:Nat)(ht:P.underlying t=some (.slice e))(hi:P.info? e=some i)(hz:i.zero=some z)
  (hsize:i.size=size) (hby:i.bytes=bytes) (hzs:z.cells.size=size) (hsz:0<size)
  (v:Value) (n:Nat) (xs:List Value) (hown:w.ownsRow base e size v n xs)
  (a:Addr) (m c:Nat) (news:List Value) (hl:news.length=m*size) (hnews:∀j u,news[j]?=some u->w.cell? (a.add j)=some u) (h1:∀u∈news,u.oneCell'=true)
  (h63:n+m<=maxLen) (hbytes:(n+m)*bytes<=140737488355328) {v':Value} {w':Ys}
  (hr:(Builtin.append_ #[t,t] ty #[v,Yj (some a) m c]).run P w=.ok v' w'):pB w v v':=by
 have hsmall:n+m<=9223372036854775807:=by simp only[maxLen]at h63;omega
 rcases hown.2 with⟨rfl,rfl⟩|⟨g,cap,cur,rfl,hbg,hg,hnc,hcm,hcs,htake⟩
 ·have hx:xs=[]:=List.eq_nil_of_length_eq_zero (by simpa using hown.1);subst hx;obtain⟨v2,w2,hr2,fw,_⟩:=run_append_own (P:=P) w w.1.size t ty e i z size bytes ht hi hz hsize hby hzs hsz _ 0 [] (World.ownsRow_nil w w.1.size e size) a m c news hl hnews h1 h63 hbytes (Nat.le_refl _);rw[hr]at hr2;simp only[Result.ok.injEq]at hr2;obtain⟨rfl,rfl⟩:=hr2;exact .inr λg hg=>aB fw g hg
 by_cases hroom:n+m<=cap
 ·obtain⟨w2,hr2,_⟩:=run_append_fits (P:=P) w base t ty e i size ht hi hsize g n cap xs hown a m c news hl hnews h1 hroom;rw[hr]at hr2;simp only[Result.ok.injEq]at hr2;obtain⟨rfl,rfl⟩:=hr2;exact .inl rfl
 have holds:∀j u,xs[j]?=some u->w.cell? ((⟨g,0,none⟩:Addr).add j)=some u:=hown.cells (g:=g) rfl;subst hsize;subst hby;have hr2:=run_append_grow (P:=P) w t ty e i z ht hi hz ⟨g,0,none⟩ n cap xs hown.1 holds a m c news hl hnews (by omega) (by omega) (growslice_fits (by omega) hbytes);rw[hr]at hr2;simp only[Result.ok.injEq]at hr2;obtain⟨rfl,rfl⟩:=hr2;refine .inr λg' hg'=>?_
 simp only[Value.ownBlock,Option.some.injEq]at hg';omega
theorem rA{P:Program}{o:Oper}{a:Act}{w:Ys}{K:Act->Ys->Prop}{Q:Exit->Act->Ys->Prop}(s x:Operand)(t:TypeId)
  (ho:o.op=.call { callee:=.builtin .append,args:=#[s,x],argTypes:=#[t,t] })
  (base:Nat) (e:TypeId) (i:TypeInfo) (z:Value) (size bytes:Nat) (ht:P.underlying t=some (.slice e)) (hi:P.info? e=some i) (hz:i.zero=some z)
  (hsize:i.size=size) (hby:i.bytes=bytes) (hzs:z.cells.size=size) (hsz:0<size)
  (v:Value) (n:Nat) (xs:List Value) (hs:a.eval s=v) (hown:w.ownsRow base e size v n xs)
  (ad:Addr) (m c:Nat) (news:List Value) (hx:a.eval x=Yj (some ad) m c) (hl:news.length=m*size) (hnews:∀j u,news[j]?=some u->w.cell? (ad.add j)=some u) (h1:∀u∈news,u.oneCell'=true)
  (h63:n+m<=maxLen) (hbytes:(n+m)*bytes<=140737488355328) (hbase:base<=w.1.size)
  (h:∀v' w',w'.ownsRow base e size v' (n+m) (xs++news)->w.grownBy w' v.ownBlock->pB w v v'->K (a.put o.dst v') w'):o.wp P a w K Q:=by
 obtain⟨v',w',hr,h2,h3,h4⟩:=run_append_own (P:=P) w base t o.type e i z size bytes ht hi hz hsize hby hzs hsz v n xs hown ad m c news hl hnews h1 h63 hbytes hbase;have h5:=vX (P:=P) w base t o.type e i z size bytes ht hi hz hsize hby hzs hsz v n xs hown ad m c news hl hnews h1 h63 hbytes hr;unfold Oper.wp execOp;simp only[ho,resolve,invoke,builtin,Sem.run_bind,Sem.run_pure,Result.andThen_ok,List.map_toArray,List.map_cons,List.map_nil,hs,hx,hr];exact h v' w' h2 h3 h5
theorem uo{P:Program}{ops:Array Oper}{rest:List Oper}{o:Oper}{a:Act}{w:Ys}{Q:Exit->Act->Ys->Prop}(hgd:o.guard=none)(s x:Operand)(t:TypeId)
  (ho:o.op=.call { callee:=.builtin .append,args:=#[s,x],argTypes:=#[t,t] })
  (base:Nat) (e:TypeId) (i:TypeInfo) (z:Value) (size bytes:Nat) (ht:P.underlying t=some (.slice e)) (hi:P.info? e=some i) (hz:i.zero=some z)
  (hsize:i.size=size) (hby:i.bytes=bytes) (hzs:z.cells.size=size) (hsz:0<size)
  (v:Value) (n:Nat) (xs:List Value) (hs:a.eval s=v) (hown:w.ownsRow base e size v n xs)
  (ad:Addr) (m c:Nat) (news:List Value) (hx:a.eval x=Yj (some ad) m c) (hl:news.length=m*size) (hnews:∀j u,news[j]?=some u->w.cell? (ad.add j)=some u) (h1:∀u∈news,u.oneCell'=true)
  (h63:n+m<=maxLen) (hbytes:(n+m)*bytes<=140737488355328) (hbase:base<=w.1.size)
  (h:∀v' w',w'.ownsRow base e size v' (n+m) (xs++news)->w.grownBy w' v.ownBlock->pB w v v'->wpList P ops Q rest (a.put o.dst v') w'):wpList P ops Q (o :: rest) a w:=
 wpList_plain hgd λ_ hK=>rA s x t ho base e i z size bytes ht hi hz hsize hby hzs hsz v n xs hs hown ad m c news hx hl hnews h1 h63 hbytes hbase λv' w' h2 h3 h4=>hK _ _ (h v' w' h2 h3 h4)
theorem jv{P:Program}{ops:Array Oper}{o:Oper}{a:Act}{w:Ys}{K:Act->Ys->Prop}{Q:Exit->Act->Ys->Prop}{E:Prop}
  (hg:o.guard=none) (s x:Operand) (t:TypeId) (hop:o.op=Op.call { callee:=Callee.builtin Builtin.append,args:=#[s,x],argTypes:=#[t,t] })
  (base:Nat) (e:TypeId) (i:TypeInfo) (z:Value) (size bytes:Nat) (ht:P.underlying t=some (.slice e)) (hi:P.info? e=some i) (hz:i.zero=some z)
  (hsize:i.size=size) (hby:i.bytes=bytes) (hzs:z.cells.size=size) (hsz:0<size)
  (v:Value) (n:Nat) (xs:List Value) (hs:a.eval s=v) (hown:w.ownsRow base e size v n xs)
  (ad:Addr) (m c:Nat) (news:List Value) (hx:a.eval x=Yj (some ad) m c) (hl:news.length=m*size) (hnews:∀j u,news[j]?=some u->w.cell? (ad.add j)=some u) (h1:∀u∈news,u.oneCell'=true)
  (h63:n+m<=maxLen) (hbytes:(n+m)*bytes<=140737488355328) (hbase:base<=w.1.size)
  (h:∀v' w',w'.ownsRow base e size v' (n+m) (xs++news)->w.grownBy w' v.ownBlock->pB w v v'->K (a.put o.dst v') w') :
  if Region.wanted o (yielded ops a.tmps)=true then Oper.wp P o a w K Q else E:=by
 have hw:Region.wanted o (yielded ops a.tmps)=true:=by simp[Region.wanted,hg]
 rw[if_pos hw];exact rA s x t hop base e i z size bytes ht hi hz hsize hby hzs hsz v n xs hs hown ad m c news hx hl hnews h1 h63 hbytes hbase h
theorem uX{w:Ys}{B e size n cap:Nat}{A:Option Addr}{xs:List Value}(h:w.ownsRow B e size (Yj A n cap) n xs)(m:Nat)(hm:m<=n):w.ownsRow B e size (Yj A m cap) m (xs.take (m*size)):=by
 refine⟨by rw[List.length_take,h.1];exact Nat.min_eq_left (Nat.mul_le_mul_right _ hm),?_⟩;rcases h.2 with⟨e1,rfl⟩|⟨g,cap',cur,e1,h2,h3,h4,h5,h6,h7⟩
 ·simp only[Value.slice.injEq]at e1;obtain⟨rfl,_,rfl⟩:=e1;obtain rfl:m=0:=by omega
  exact .inl ⟨rfl,rfl⟩
 simp only[Value.slice.injEq]at e1;obtain⟨rfl,_,rfl⟩:=e1;refine .inr ⟨g,cap,cur,rfl,h2,h3,by omega,h5,h6,?_⟩;rw[<-h7,List.take_take,Nat.min_eq_left (Nat.mul_le_mul_right _ hm)]
end Go.Proofs.YthoemdibbldndaaGreatDoor
namespace Go.Proofs.YthoemdibbldndaaGreatDoor.Mk
open Go.RowKit
section
abbrev ig:TypeId:=180
structure Mo where
 v:Value
 op:List St.It
 c:Nat
def Mo.l(m:Mo):List Value:=[m.v,Yh Yn (m.c:Int)]
variable {mo:Mo}
def zh(a b:Value):Prop:=a.ownBlock=none\/a.ownBlock≠b.ownBlock
theorem vp{a b:Value}(h:zh a b):zh b a:=by
 unfold zh at h |-;cases hb:b.ownBlock with
 | none=>exact .inl rfl
 | some x=>
  refine .inr λe=>?_
  rcases h with h|h
  ·rw[h]at e;cases e
  exact h (by rw[hb,e])
def BV(mo:Mo)(w:Ys)(B b:Nat)(v0 v1 v2:Value)(ah:List St.It)(tx:List UInt8)(cuts:List Nat):Prop:=
 B<=b/\w.1[b]?=some (Yo ⟨v0 :: v1 :: v2 :: mo.l⟩ ig (0,0))/\w.ownsRow B 36 3 v0 ah.length (ak ah)/\w.ownsRow B 5 1 v1 tx.length (Lib.byteCells tx)/\w.ownsRow B 3 1 v2 cuts.length (eY cuts) /\
  w.ownsRow B 36 3 mo.v mo.op.length (ak mo.op)/\zh v0 mo.v
def b8(mo:Mo)(w:Ys)(B b:Nat)(ah:List St.It)(tx:List UInt8)(cuts:List Nat):Prop:=∃v0 v1 v2,BV mo w B b v0 v1 v2 ah tx cuts
theorem BV.ai{a c:Ys}{B b:Nat}{v0 v1 v2:Value}{ah:List St.It}{tx:List UInt8}{cuts:List Nat}(h:BV mo a B b v0 v1 v2 ah tx cuts)(u:ac a c):BV mo c B b v0 v1 v2 ah tx cuts:=by
 obtain⟨h0,h1,h2,h3,h4,h5,h6⟩:=h;exact⟨h0,(u.below.block b (ae h1)).trans h1,aF u h2,aF u h3,aF u h4,aF u h5,h6⟩
theorem b8.ai{a c:Ys}{B b:Nat}{ah:List St.It}{tx:List UInt8}{cuts:List Nat}(h:b8 mo a B b ah tx cuts)(u:ac a c):b8 mo c B b ah tx cuts:=by
 obtain⟨v0,v1,v2,h⟩:=h;exact⟨v0,v1,v2,h.ai u⟩
theorem BV.GS{w w4:Ys}{B b:Nat}{v0 v1 v2 v':Value}{ah:List St.It}{tx jB:List UInt8}{cuts:List Nat}(h:BV mo w B b v0 v1 v2 ah tx cuts)(hg:w.grownBy w4 v1.ownBlock)(ho:w4.ownsRow B 5 1 v' jB.length (Lib.byteCells jB)) :
  BV mo (w4.setCell ⟨b,1,none⟩ v') B b v0 v' v2 ah jB cuts:=by
 obtain⟨h0,h1,h2,h3,h4,h5,h6⟩:=h;have hb4:w4.1[b]?=some (Yo ⟨v0 :: v1 :: v2 :: mo.l⟩ ig (0,0)):=(hg.block b (ae h1) (λe=>aT h3 h1 (by decide) e.symm)).trans h1;exact⟨h0,heap_setCell_same w4 b 1 _ _ v' hb4,aD (h2.kept hg (da h2 h3 (by decide))) (aT h2 h1 (by decide)),aD ho (aT ho hb4 (by decide)),aD (h4.kept hg (da h4 h3 (by decide))) (aT h4 h1 (by decide)),aD (h5.kept hg (da h5 h3 (by decide))) (aT h5 h1 (by decide)),h6⟩
theorem BV.xj{w w4:Ys}{B b:Nat}{v0 v1 v2 v':Value}{ah:List St.It}{tx:List UInt8}{cuts rI:List Nat}(h:BV mo w B b v0 v1 v2 ah tx cuts)(hg:w.grownBy w4 v2.ownBlock)(ho:w4.ownsRow B 3 1 v' rI.length (eY rI)) :
  BV mo (w4.setCell ⟨b,2,none⟩ v') B b v0 v1 v' ah tx rI:=by
 obtain⟨h0,h1,h2,h3,h4,h5,h6⟩:=h;have hb4:w4.1[b]?=some (Yo ⟨v0 :: v1 :: v2 :: mo.l⟩ ig (0,0)):=(hg.block b (ae h1) (λe=>aT h4 h1 (by decide) e.symm)).trans h1;exact⟨h0,heap_setCell_same w4 b 2 _ _ v' hb4,aD (h2.kept hg (da h2 h4 (by decide))) (aT h2 h1 (by decide)),aD (h3.kept hg (da h3 h4 (by decide))) (aT h3 h1 (by decide)),aD ho (aT ho hb4 (by decide)),aD (h5.kept hg (da h5 h4 (by decide))) (aT h5 h1 (by decide)),h6⟩
theorem zS{w W:Ys}{B e n:Nat}{v0 v' v3:Value}{xs:List Value}(h5:w.ownsRow B e 3 v3 n xs)(hw:w.1.size<=W.1.size)(h6:zh v0 v3)(hf:pB W v0 v'):zh v' v3:=by
 unfold zh at h6 |-;rcases hf with hf|hf
 ·rw[hf];exact h6
 cases hv:v'.ownBlock with
 | none=>exact .inl rfl
 | some g=>
  refine .inr λe=>?_
  have:=hf g hv
  have:=(h5.lt g e.symm).2
  omega
theorem BV.xh{w W w4:Ys}{B b:Nat}{v0 v1 v2 v':Value}{ah fD:List St.It}{tx:List UInt8}{cuts:List Nat}(h:BV mo w B b v0 v1 v2 ah tx cuts)(hg:w.grownBy w4 v0.ownBlock)(hw:w.1.size<=W.1.size)(hf:pB W v0 v')(ho:w4.ownsRow B 36 3 v' fD.length (ak fD)) :
  BV mo (w4.setCell ⟨b,0,none⟩ v') B b v' v1 v2 fD tx cuts:=by
 obtain⟨h0,h1,h2,h3,h4,h5,h6⟩:=h;have hb4:w4.1[b]?=some (Yo ⟨v0 :: v1 :: v2 :: mo.l⟩ ig (0,0)):=(hg.block b (ae h1) (λe=>aT h2 h1 (by decide) e.symm)).trans h1;exact⟨h0,heap_setCell_same w4 b 0 _ _ v' hb4,aD ho (aT ho hb4 (by decide)),aD (h3.kept hg (da h3 h2 (by decide))) (aT h3 h1 (by decide)),aD (h4.kept hg (da h4 h2 (by decide))) (aT h4 h1 (by decide)),aD (h5.kept hg (vp h6)) (aT h5 h1 (by decide)),zS h5 hw h6 hf⟩
theorem BV.Co{w:Ys}{B b:Nat}{v0 v1 v2:Value}{ah:List St.It}{tx:List UInt8}{cuts:List Nat}(h:BV mo w B b v0 v1 v2 ah tx cuts):BV mo (w.setCell ⟨b,1,none⟩ (Yj none 0 0)) B b v0 (Yj none 0 0) v2 ah [] cuts:=by
 obtain⟨h0,h1,h2,h3,h4,h5,h6⟩:=h;exact⟨h0,heap_setCell_same w b 1 _ _ _ h1,aD h2 (aT h2 h1 (by decide)),World.ownsRow_nil _ _ _ _,aD h4 (aT h4 h1 (by decide)),aD h5 (aT h5 h1 (by decide)),h6⟩
theorem oV(w:Ys)(B b:Nat)(ah:List St.It)(tx:List UInt8)(cuts:List Nat)(t:Bool)(h:b8 mo w B b ah tx cuts)(h1:ah.length<=600)(h2:cuts.length<=2000) :
  Calls Tryz.prog 190 #[Yl (some ⟨b,0,none⟩),Yk t] w λe w'=>e=Yp (Yk (St.aU ah.length tx.length cuts.length t))/\w=w':=by
 obtain⟨v0,v1,v2,_,hb,h3,h4,h5,_⟩:=h;obtain⟨A0,c0,rfl,_⟩:=aJ h3;obtain⟨A1,c1,rfl,_⟩:=aJ h4;obtain⟨A2,c2,rfl,_⟩:=aJ h5;have g0:w.cell? ⟨b,0,none⟩=some (Yj A0 ah.length c0):=aj hb 0;have g1:w.cell? ⟨b,1,none⟩=some (Yj A1 tx.length c1):=aj hb 1;have g2:w.cell? ⟨b,2,none⟩=some (Yj A2 cuts.length c2):=aj hb 2;haveI:af b w:=af.of (ae hb);clear hb h3 h4 h5;unfold St.aU;generalize ah.length=n0 at *;generalize tx.length=n1 at *;generalize cuts.length=n2 at *;rcases Nat.eq_zero_or_pos n1 with z|z
 ·subst z;cases t<;>
  ·by_cases q1:512<n0+1<;>by_cases q2:1024<n2+1<;>
   ·have q1':=q1;have q2':=q2;go_enter Tryz.func190,Tryz.ntmps190;go_wp2;go_ret;exact⟨az (by simp<;>omega),rfl⟩
 have z':(0:Int)<(n1:Int):=by omega
 cases t
 ·by_cases q1:512<n0+1+1<;>by_cases q2:1024<n2+1<;>
  ·go_enter Tryz.func190,Tryz.ntmps190;go_wp2;go_ret;exact⟨az (by simp<;>omega),rfl⟩
 by_cases q1:512<n0+1<;>by_cases q2:1024<n2+1<;>
 ·go_enter Tryz.func190,Tryz.ntmps190;go_wp2;go_ret;exact⟨az (by simp<;>omega),rfl⟩
end
section
variable {mo:Mo}
theorem dx{B b i:Nat}{w w2 w4:Ys}{row:Option Nat}{v:Value}(h:Below B w w2)(hBw:B<=w2.1.size)(hg:w2.grownBy w4 row)(hr:∀g,row=some g->B<=g)(hB:B<=b):Below B w (w4.setCell ⟨b,i,none⟩ v):=
 (h.grown hg hBw hr).setCell (p:=⟨b,i,none⟩) hB v
theorem oN(w:Ys)(B b:Nat)(ah:List St.It)(tx:List UInt8)(cuts:List Nat)(c:UInt8)(off:Nat)(h:b8 mo w B b ah tx cuts)(h1:ah.length<=600)(h2:cuts.length<=2000)(h3:tx.length<=2000)(hBw:B<=w.1.size) :
  Calls Tryz.prog 162 #[Yl (some ⟨b,0,none⟩),Yh .u8 c.toNat,Yh Yn off] w λe w'=>
   e=Yp (Yk (!St.aU ah.length tx.length cuts.length true))/\(St.aU ah.length tx.length cuts.length true=false->b8 mo w' B b ah (tx++[c]) (cuts++[off]))/\Below B w w':=by
 have hf:=oV w B b ah tx cuts true h h1 h2;cases hb:St.aU ah.length tx.length cuts.length true
 ·rw[hb]at hf;obtain⟨v0,v1,v2,hv⟩:=h;have HV:=aa hv;obtain⟨hB,hbk,ho0,dZ,fw,cR,hds⟩:=hv;obtain⟨A1,c1,rfl,_⟩:=aJ dZ;obtain⟨A2,c2,rfl,_⟩:=aJ fw;have g1:w.cell? ⟨b,1,none⟩=some (.slice A1 tx.length c1):=aj hbk 1;have g2:w.cell? ⟨b,2,none⟩=some (.slice A2 cuts.length c2):=aj hbk 2;have f1:w.frozen? ⟨b,1,none⟩=false:=bz hbk 1;have hlt:=ae hbk;haveI:af b w:=af.of hlt;obtain⟨i8,hi,hz0,hz1,hz2⟩:=info_parts pY;obtain⟨ii,ki,kz0,kz1,kz2⟩:=info_parts fO;have HF:=aa hf;have nD:=aa dZ;have HB:=aa hB;generalize gu:tx.length=n1 at *;generalize fe:cuts.length=n2 at *;clear hf hbk ho0 dZ fw cR hds hB;go_enter Tryz.func162,Tryz.ntmps162;go_wp2_with fail;refine HF.out.mono ?_;rintro e w' ⟨rfl,rfl⟩;go_wp2_with (at_builtin;refine wpList_append_own _ rfl _ _ 22 rfl B 5 i8 (.int .u8 0) 1 1 Tryz.underlying22 hi hz0 hz1 hz2 rfl (by decide) (.slice A1 n1 c1) n1 _ rfl (nD.out.alloc _) _ 1 1 [.int .u8 c.toNat] rfl rfl ?_ (by simp;rfl) (by unfold maxLen;omega) (by omega) ?_ ?_)
  ·exact gy _ _ _
  ·simp;omega
  intro v' w4 hown' hgrow _
  have iq:BV mo (w4.setCell ⟨b,1,none⟩ v') B b v0 v' (Yj A2 n2 c2) ah (tx++[c]) cuts:=by
   refine BV.GS (HV.out.ai ((ac.refl w).alloc _)) hgrow ?_;rw[wN,List.length_append,List.length_singleton,gu];exact hown'
  have lk:Below B w (w4.setCell ⟨b,1,none⟩ v'):=dx ((Below.refl B w).alloc hBw _) (by simp;omega) hgrow (λg hg=>aB nD.out g hg) HB.out
  have hb4:w4.1[b]?=some (Yo ⟨v0 :: Yj A1 n1 c1 :: Yj A2 n2 c2 :: mo.l⟩ ig (0,0)):=by
   obtain⟨q0,q1,_,q3,_⟩:=HV.out.ai ((ac.refl w).alloc (Yo #[Yh .u8 c.toNat] 5));exact(hgrow.block b (ae q1) (λe=>aT q3 q1 (by decide) e.symm)).trans q1
  obtain⟨IK,c1',rfl,_⟩:=aJ hown';have e1:w4.cell? ⟨b,1,none⟩=some (Yj A1 n1 c1):=aj hb4 1;have Qw:w4.frozen? ⟨b,1,none⟩=false:=bz hb4 1;have e2:w4.cell? ⟨b,2,none⟩=some (Yj A2 n2 c2):=aj hb4 2;have Qx:w4.frozen? ⟨b,2,none⟩=false:=bz hb4 2;haveI:af b w4:=af.of (ae hb4);have lh:=aa iq;have oE:=aa lk;have jZ:=aa iq.2.2.2.2.1;have nV:B<=w4.1.size:=by have:=lk.size;simp at this;omega
  clear iq lk hb4 hown' hgrow g1 g2 f1;go_wp2_with (at_builtin;refine wpList_append_own _ rfl _ _ 42 rfl B 3 ii (.int .i64 0) 1 8 Tryz.underlying42 ki kz0 kz1 kz2 rfl (by decide) (.slice A2 n2 c2) n2 _ rfl (by have:=jZ.out.alloc (.cells #[.int .i64 off] 3);rw[fe]at this;exact this) _ 1 1 [.int .i64 off] rfl rfl ?_ (by simp;rfl) (by unfold maxLen;omega) (by omega) ?_ ?_)
  ·exact ue _ _ _ _ (by simp)
  ·simp;omega
  intro v2' w6 hown2 hgrow2 _
  have oW:BV mo (w6.setCell ⟨b,2,none⟩ v2') B b v0 (Yj IK (n1+1) c1') v2' ah (tx++[c]) (cuts++[off]):=by
   refine BV.xj (lh.out.ai ((ac.refl _).alloc _)) hgrow2 ?_;rw[dB,List.length_append,List.length_singleton,fe];exact hown2
  have oY:Below B w (w6.setCell ⟨b,2,none⟩ v2'):=dx (oE.out.alloc (by simp;omega) _) (by simp;omega) hgrow2 (λg hg=>aB jZ.out g hg) HB.out
  have fT:w6.1[b]?=some (Yo ⟨v0 :: Yj IK (n1+1) c1' :: Yj A2 n2 c2 :: mo.l⟩ ig (0,0)):=by
   obtain⟨q0,q1,_,_,q4,_⟩:=lh.out.ai ((ac.refl _).alloc (Yo #[Yh Yn off] 3));exact(hgrow2.block b (ae q1) (λe=>aT q4 q1 (by decide) e.symm)).trans q1
  obtain⟨PD,c2',rfl,_⟩:=aJ hown2;have d2:w6.cell? ⟨b,2,none⟩=some (Yj A2 n2 c2):=aj fT 2;have Qs:w6.frozen? ⟨b,2,none⟩=false:=bz fT 2;haveI:af b w6:=af.of (ae fT);have HE:=aa (And.intro oW oY);clear oW oY fT hown2 hgrow2 e1 e2 Qw Qx lh oE;go_wp2;go_ret;exact⟨rfl,λ_=>⟨_,_,_,HE.out.1⟩,HE.out.2⟩
 rw[hb]at hf;have HF:=aa hf;clear hf h;go_enter Tryz.func162,Tryz.ntmps162;go_wp2_with fail;refine HF.out.mono ?_;rintro e w' ⟨rfl,rfl⟩;go_wp2;go_ret;exact⟨rfl,(λh=>nomatch h),Below.refl _ _⟩
theorem oP{w:Ys}{B n c:Nat}{A:Option Addr}{l:List UInt8}(h:w.ownsRow B 5 1 (Yj A n c) n (Lib.byteCells l))(h0:0<n) :
  (convert 22 9 (Yj A n c)).run Tryz.prog w=.ok (Yi ⟨l.toArray⟩) w:=by
 have hl:l.length=n:=by have:=h.1;rw[Lib.byteCells_length]at this;simpa using this
 obtain⟨g,rfl,_,_,hc⟩:=dU h h0
 rw[run_convert_bytes_arg w 22 5 Tryz.underlying22 Tryz.underlying5 g 0 n c (l.map λx=>(x.toNat:Int)) (by simpa using hl) (λi hi=>by
  rw[Nat.zero_add];refine hc i _ ?_;have hil:i<l.length:=by omega
  simp[Lib.byteCells,List.getD_eq_getElem?_getD,hil]) _ Tryz.underlying9]
 simp[strOfNums,Function.comp_def]
theorem BV.after{w w1:Ys}{B b:Nat}{v0 v1 v2:Value}{ah:List St.It}{tx:List UInt8}{cuts:List Nat}(h:BV mo w B b v0 v1 v2 ah tx cuts){row:Option Nat}(hg:w.grownBy w1 row)(hr:row=v0.ownBlock\/row=v1.ownBlock\/row=v2.ownBlock) :
  w1.1[b]?=some (Yo ⟨v0 :: v1 :: v2 :: mo.l⟩ ig (0,0)):=by
 obtain⟨_,h1,h2,h3,h4,_⟩:=h;refine(hg.block b (ae h1) (λe=>?_)).trans h1;rcases hr with rfl|rfl|rfl
 ·exact aT h2 h1 (by decide) e.symm
 ·exact aT h3 h1 (by decide) e.symm
 exact aT h4 h1 (by decide) e.symm
theorem BV.cells{w:Ys}{B b:Nat}{v0 v1 v2:Value}{ah:List St.It}{tx:List UInt8}{cuts:List Nat}(h:BV mo w B b v0 v1 v2 ah tx cuts):∃A0 c0 A1 c1 A2 c2,v0=Yj A0 ah.length c0/\v1=Yj A1 tx.length c1/\v2=Yj A2 cuts.length c2:=by
 obtain⟨_,_,h2,h3,h4,_⟩:=h;obtain⟨A0,c0,e0,_⟩:=aJ h2;obtain⟨A1,c1,e1,_⟩:=aJ h3;obtain⟨A2,c2,e2,_⟩:=aJ h4;exact⟨A0,c0,A1,c1,A2,c2,e0,e1,e2⟩
theorem nK(w W:Ys)(B b:Nat)(ah:List St.It)(tx:List UInt8)(cuts:List Nat)(h:b8 mo w B b ah tx cuts)(hu:ac w W)(h1:ah.length<=600)(h3:tx.length<=2000)(hBw:B<=w.1.size) :
  Calls Tryz.prog 121 #[Yl (some ⟨b,0,none⟩)] W λe w'=>
   e=Yp (.tuple #[])/\b8 mo w' B b (ah++St.ch tx) [] cuts/\Below B W w'/\∀k,w.1.size<=k->k<W.1.size->w'.1[k]?=W.1[k]?:=by
 obtain⟨v0,v1,v2,hv⟩:=h;have Wm:=ae hv.2.1;have hol:∀g,v0.ownBlock=some g->g<w.1.size:=λg hg=>(hv.2.2.1.lt g hg).2
 replace hv:=hv.ai hu
 have fk:B<=W.1.size:=Nat.le_trans hBw hu.size;have HV:=aa hv;obtain⟨A0,c0,A1,c1,A2,c2,rfl,rfl,rfl⟩:=hv.cells;obtain⟨hB,hbk,ho0,dZ,fw,cR,hds⟩:=hv;have g0:W.cell? ⟨b,0,none⟩=some (Yj A0 ah.length c0):=aj hbk 0;have g1:W.cell? ⟨b,1,none⟩=some (Yj A1 tx.length c1):=aj hbk 1;haveI:af b W:=af.of (ae hbk);have qJ:=aa ho0;have nD:=aa dZ;have HB:=aa hB;have IV:=aa hol;have Wl:=hu.size;rcases Nat.eq_zero_or_pos tx.length with z|z
 ·have htx:tx=[]:=List.eq_nil_of_length_eq_zero z;subst htx;clear ho0 dZ fw cR hds hbk hB hol;go_enter Tryz.func121,Tryz.ntmps121;go_wp2;go_end0;exact⟨rfl,⟨_,_,_,by simpa[St.ch]using HV.out⟩,Below.refl _ _,λ_ _ _=>rfl⟩
 have z':(0:Int)<(tx.length:Int):=by omega
 have hcv:=oP dZ z;have UY:(convert 22 9 (.slice A1 tx.length c1)).run Tryz.prog W.drew=.ok (.string ⟨tx.toArray⟩) W.drew:=oP (w:=W.drew) dZ z;obtain⟨i0,hi,hz0,hz1,hz2⟩:=info_parts dH;have xv:ac W W.drew:=uZ;have V1:=aa (HV.out.ai xv);generalize hn0:ah.length=n0 at *;generalize gu:tx.length=n1 at *;clear ho0 dZ fw cR hds hbk hB hol hcv;go_enter Tryz.func121,Tryz.ntmps121;go_wp2_with fail;go_region_law (refine jv rfl (.tmp 12) (.tmp 19) 37 rfl B 36 i0 (.agg #[.int .i64 0,.string ⟨#[]⟩,.int .i64 0]) 3 32 Tryz.underlying37 hi hz0 hz1 hz2 rfl (by decide) (.slice A0 n0 c0) n0 _ rfl (dV (qJ.out.alloc (.cells #[.int .i64 1,.string ⟨tx.toArray⟩,.int .i64 0] 36)) (ac.refl _).drew) ⟨W.1.size,0,none⟩ 1 1 [.int .i64 1,.string ⟨tx.toArray⟩,.int .i64 0] rfl rfl (dW W _ _ _ 36 _ rfl) (cL 1 0 _) (by unfold maxLen;omega) (by omega) (by simp;omega) ?_;intro v' w1 hown' hgrow tK;have hgr:=aO (ac.gb (uZ:ac W (W.alloc (.cells #[.int .i64 1,.string ⟨tx.toArray⟩,.int .i64 0] 36)).drew) (Value.slice A0 n0 c0).ownBlock) hgrow (λg e=>Or.inl e);have hb4:=HV.out.after hgr (Or.inl rfl);have e0:w1.cell? ⟨b,0,none⟩=some (.slice A0 n0 c0):=aj hb4 0;have e1:w1.cell? ⟨b,1,none⟩=some (.slice A1 n1 c1):=aj hb4 1;have f0:w1.frozen? ⟨b,0,none⟩=false:=bz hb4 0;have f1:w1.frozen? ⟨b,1,none⟩=false:=bz hb4 1;haveI:af b w1:=af.of (ae hb4);obtain⟨A',c',rfl,_⟩:=aJ hown')
 all_goals
  have iq:BV mo (w1.setCell ⟨b,0,none⟩ (Yj A' (n0+1) c')) B b (Yj A' (n0+1) c') (Yj A1 n1 c1) (Yj A2 cuts.length c2) (ah++[(1,tx,0)]) tx cuts:=by
   refine BV.xh HV.out hgr (by simp) tK ?_;rw[bD,List.length_append,List.length_singleton,hn0];exact hown'
  have hbl:Below B W (w1.setCell ⟨b,0,none⟩ (Yj A' (n0+1) c')):=dx (Below.refl B W) fk hgr (λg hg=>aB qJ.out g hg) HB.out;have hfr:∀k,w.1.size<=k->k<W.1.size->w1.1[k]?=W.1[k]?:=λk hk hk2=>hgr.block k hk2 (λe=>by have:=IV.out k e.symm;omega)
  have HE:=aa (And.intro iq (And.intro hbl hfr));clear iq hbl hfr hgr hgrow hown' hb4 tK;go_wp2;go_end0;have ht:St.ch tx=[(1,tx,0)]:=by unfold St.ch;rw[if_neg (by intro e;rw[e]at gu;simp at gu;omega)]
  have eM:b8 mo ((w1.setCell ⟨b,0,none⟩ (Yj A' (n0+1) c')).setCell ⟨b,1,none⟩ (Yj none 0 0)) B b (ah++St.ch tx) [] cuts:=by
   rw[ht];exact⟨_,_,_,HE.out.1.Co⟩
  refine⟨rfl,eM,HE.out.2.1.setCell (p:=⟨b,1,none⟩) HB.out _,λk hk hk2=>?_⟩;rw[heap_setCell_other _ _ _ _ (by show k≠b;omega),heap_setCell_other _ _ _ _ (by show k≠b;omega)];exact HE.out.2.2 k hk hk2
end
section
variable {mo:Mo}
theorem wi(t:List UInt8):(St.ch t).length<=1:=by rw[St.uN];split<;>omega
theorem lp(w:Ys)(B b:Nat)(ah:List St.It)(tx:List UInt8)(cuts:List Nat)(k i:Int)(s:ByteArray)(off:Nat)(h:b8 mo w B b ah tx cuts)(h1:ah.length<=600)(h2:cuts.length<=2000)(h3:tx.length<=2000)(hBw:B<=w.1.size) :
  Calls Tryz.prog 164 #[Yl (some ⟨b,0,none⟩),.agg #[Yh Yn k,Yi s,Yh Yn i],Yh Yn off] w λe w'=>
   e=Yp (Yk (!St.aU ah.length tx.length cuts.length false))/\(St.aU ah.length tx.length cuts.length false=false->b8 mo w' B b (ah++St.ch tx++[(k,s.1.1,i)]) [] (cuts++[off]))/\Below B w w':=by
 have huA:ac w (w.alloc (Yo #[Yh Yn k,Yi s,Yh Yn i] 36)):=uZ;have hf:=oV _ B b ah tx cuts false (h.ai huA) h1 h2;have hfl:=nK w _ B b ah tx cuts h huA h1 h3 hBw;have nY:=aa hfl;cases hb:St.aU ah.length tx.length cuts.length false
 ·rw[hb]at hf;have HF:=aa hf;clear hf hfl h;go_enter Tryz.func164,Tryz.ntmps164;go_wp2_with fail;refine HF.out.mono ?_;rintro e w' ⟨rfl,rfl⟩;go_wp2_with fail;refine nY.out.mono ?_;rintro e w2 ⟨rfl,⟨v0,v1,v2,hv⟩,hbl,hfr⟩;have oZ:w2.1[w.1.size]?=some (Yo #[Yh Yn k,Yi s,Yh Yn i] 36 (0,0)):=(hfr _ (Nat.le_refl _) (by simp)).trans (heap_alloc_new w _);have x0:w2.cell? ⟨w.1.size,0,none⟩=some (Yh Yn k):=aj oZ 0;have x1:w2.cell? ⟨w.1.size,1,none⟩=some (Yi s):=aj oZ 1;have x2:w2.cell? ⟨w.1.size,2,none⟩=some (Yh Yn i):=aj oZ 2;haveI:af w.1.size w2:=af.of (ae oZ);have HV:=aa hv;obtain⟨A0,c0,A1,c1,A2,c2,rfl,rfl,rfl⟩:=hv.cells;obtain⟨hB,hbk,ho0,dZ,fw,cR,hds⟩:=hv;have g0:w2.cell? ⟨b,0,none⟩=some (Yj A0 (ah++St.ch tx).length c0):=aj hbk 0;have kS:B<=w2.1.size:=Nat.le_trans (Nat.le_trans hBw huA.size) hbl.size;have df:=aa ((Below.refl B w).alloc hBw (Yo #[Yh Yn k,Yi s,Yh Yn i] 36) |>.trans hbl);have U4:(ah++St.ch tx).length<=601:=by have:=wi tx;simp;omega
  haveI:af b w2:=af.of (ae hbk);have qJ:=aa ho0;have HB:=aa hB;generalize hits:ah++St.ch tx=rW at *;obtain⟨i0,hi,hz0,hz1,hz2⟩:=info_parts dH;obtain⟨ii,ki,kz0,kz1,kz2⟩:=info_parts fO;generalize hn0:rW.length=n0 at *;generalize fe:cuts.length=n2 at *;clear hbk ho0 dZ fw cR hds hB hbl hfr oZ HF nY;go_wp2_with fail;go_region_law (refine jv rfl (.tmp 15) (.tmp 17) 37 rfl B 36 i0 (.agg #[.int .i64 0,.string ⟨#[]⟩,.int .i64 0]) 3 32 Tryz.underlying37 hi hz0 hz1 hz2 rfl (by decide) (.slice A0 n0 c0) n0 _ rfl (dV (qJ.out.alloc (.cells #[.int .i64 k,.string s,.int .i64 i] 36)) (ac.refl _).drew) ⟨w2.1.size,0,none⟩ 1 1 [.int .i64 k,.string s,.int .i64 i] rfl rfl (dW w2 _ _ _ 36 _ rfl) (cL k i _) (by unfold maxLen;omega) (by omega) (by simp;omega) ?_;intro v' w1 hown' hgrow tK;have hgr:=aO (ac.gb (uZ:ac w2 (w2.alloc (.cells #[.int .i64 k,.string s,.int .i64 i] 36)).drew) (Value.slice A0 n0 c0).ownBlock) hgrow (λg e=>Or.inl e);have hb4:=HV.out.after hgr (Or.inl rfl);have e0:w1.cell? ⟨b,0,none⟩=some (.slice A0 n0 c0):=aj hb4 0;have f0:w1.frozen? ⟨b,0,none⟩=false:=bz hb4 0;haveI:af b w1:=af.of (ae hb4);obtain⟨A',c',rfl,_⟩:=aJ hown')
  all_goals
   have iq:BV mo (w1.setCell ⟨b,0,none⟩ (Yj A' (n0+1) c')) B b (Yj A' (n0+1) c') (Yj A1 ([]:List UInt8).length c1) (Yj A2 n2 c2) (rW++[(k,s.1.1,i)]) [] cuts:=by
    refine BV.xh HV.out hgr (by simp) tK ?_;rw[bD,List.length_append,List.length_singleton,hn0];simp only[bn];exact hown'
   have lk:Below B w (w1.setCell ⟨b,0,none⟩ (Yj A' (n0+1) c')):=dx df.out kS hgr (λg hg=>aB qJ.out g hg) HB.out;have e2:w1.cell? ⟨b,2,none⟩=some (Yj A2 n2 c2):=aj hb4 2;have f2:w1.frozen? ⟨b,2,none⟩=false:=bz hb4 2;have lh:=aa iq;have oE:=aa lk;have jZ:=aa iq.2.2.2.2.1;have nV:B<=w1.1.size:=by have:=lk.size;simp at this;omega
   clear iq lk hb4 hown' hgrow hgr tK g0 x0 x1 x2 HV qJ df;go_wp2_with (at_builtin;refine wpList_append_own _ rfl _ _ 42 rfl B 3 ii (.int .i64 0) 1 8 Tryz.underlying42 ki kz0 kz1 kz2 rfl (by decide) (.slice A2 n2 c2) n2 _ rfl (by have:=jZ.out.alloc (.cells #[.int .i64 off] 3);rw[fe]at this;exact this) _ 1 1 [.int .i64 off] rfl rfl ?_ (by simp;rfl) (by unfold maxLen;omega) (by omega) ?_ ?_)
   ·exact ue _ _ _ _ (by simp)
   ·simp;omega
   intro v2' w6 hown2 hgrow2 _
   have oW:BV mo (w6.setCell ⟨b,2,none⟩ v2') B b (Yj A' (n0+1) c') (Yj A1 ([]:List UInt8).length c1) v2' (rW++[(k,s.1.1,i)]) [] (cuts++[off]):=by
    refine BV.xj (lh.out.ai ((ac.refl _).alloc _)) hgrow2 ?_;rw[dB,List.length_append,List.length_singleton,fe];exact hown2
   have oY:Below B w (w6.setCell ⟨b,2,none⟩ v2'):=dx (oE.out.alloc (by simp;omega) _) (by simp;omega) hgrow2 (λg hg=>aB jZ.out g hg) HB.out;have fT:=(lh.out.ai ((ac.refl _).alloc (Yo #[Yh Yn off] 3))).after hgrow2 (Or.inr (Or.inr rfl));obtain⟨PD,c2',rfl,_⟩:=aJ hown2;have d2:w6.cell? ⟨b,2,none⟩=some (Yj A2 n2 c2):=aj fT 2;have Qs:w6.frozen? ⟨b,2,none⟩=false:=bz fT 2;haveI:af b w6:=af.of (ae fT);have HE:=aa (And.intro (show b8 mo _ B b (rW++[(k,s.1.1,i)]) [] (cuts++[off])from⟨_,_,_,oW⟩) oY);clear oW oY fT hown2 hgrow2 e0 f0 e2 f2 lh oE;go_wp2;go_ret;subst hits;exact⟨rfl,λ_=>HE.out.1,HE.out.2⟩
 rw[hb]at hf;have HF:=aa hf;clear hf hfl nY;go_enter Tryz.func164,Tryz.ntmps164;go_wp2_with fail;refine HF.out.mono ?_;rintro e w' ⟨rfl,rfl⟩;go_wp2;go_ret;exact⟨rfl,(λh=>nomatch h),(Below.refl B w).alloc hBw _⟩
theorem pZ(w:Ys)(B b:Nat)(ah:List St.It)(tx:List UInt8)(cuts:List Nat)(h:b8 mo w B b ah tx cuts)(h1:ah.length<=600)(h3:tx.length<=2000)(hBw:B<=w.1.size) :
  Calls Tryz.prog 82 #[Yl (some ⟨b,0,none⟩)] w λe w'=>∃A c,e=Yp (Yj A (ah++St.ch tx).length c)/\aH w' A (ah++St.ch tx)/\(ah++St.ch tx).length<=c/\c<=9223372036854775807/\Below B w w':=by
 have nY:=aa (nK w w B b ah tx cuts h (ac.refl w) h1 h3 hBw);clear h;go_enter Tryz.func82,Tryz.ntmps82;go_wp2_with fail;refine nY.out.mono ?_;rintro e w2 ⟨rfl,⟨v0,v1,v2,hv⟩,hbl,_⟩;obtain⟨A0,c0,A1,c1,A2,c2,rfl,rfl,rfl⟩:=hv.cells;obtain⟨hB,hbk,ho0,dZ,fw,cR,hds⟩:=hv;have g0:w2.cell? ⟨b,0,none⟩=some (Yj A0 (ah++St.ch tx).length c0):=aj hbk 0;haveI:af b w2:=af.of (ae hbk);obtain⟨_,_,hq,hq1,hq2⟩:=aJ ho0;simp only[Value.slice.injEq]at hq;obtain⟨rfl,_,rfl⟩:=hq;have HE:=aa (And.intro (aW ho0 rfl) hbl);clear hbk ho0 dZ fw cR hds hB hbl nY;generalize JR:ah++St.ch tx=f at *;go_wp2;go_ret;subst JR;exact⟨_,_,rfl,HE.out.1,hq1,by unfold maxLen at hq2;omega,HE.out.2⟩
theorem pO(w:Ys)(B b:Nat)(ah:List St.It)(tx:List UInt8)(cuts:List Nat)(last:Nat)(h:b8 mo w B b ah tx cuts)(h2:cuts.length<=2000)(hBw:B<=w.1.size) :
  Calls Tryz.prog 112 #[Yl (some ⟨b,0,none⟩),Yh Yn last] w λe w'=>∃A c,e=Yp (Yj A (cuts.length+1) c)/\iJ w' A (cuts++[last])/\cuts.length+1<=c/\c<=9223372036854775807/\Below B w w':=by
 obtain⟨v0,v1,v2,hv⟩:=h;obtain⟨A0,c0,A1,c1,A2,c2,rfl,rfl,rfl⟩:=hv.cells;obtain⟨hB,hbk,ho0,dZ,fw,cR,hds⟩:=hv;have g2:w.cell? ⟨b,2,none⟩=some (.slice A2 cuts.length c2):=aj hbk 2;haveI:af b w:=af.of (ae hbk);obtain⟨ii,ki,kz0,kz1,kz2⟩:=info_parts fO;have jZ:=aa fw;clear hbk ho0 dZ fw cR hds hB;generalize fe:cuts.length=n2 at *;go_enter Tryz.func112,Tryz.ntmps112;go_wp2_with (at_builtin;refine wpList_append_own _ rfl _ _ 42 rfl B 3 ii (.int .i64 0) 1 8 Tryz.underlying42 ki kz0 kz1 kz2 rfl (by decide) (.slice A2 n2 c2) n2 _ rfl (jZ.out.alloc _) _ 1 1 [.int .i64 last] rfl rfl ?_ (by simp;rfl) (by unfold maxLen;omega) (by omega) ?_ ?_)
 ·exact gy _ _ _
 ·simp;omega
 intro v' w4 hown' hgrow _;obtain⟨A',c',rfl,hq1,hq2⟩:=aJ hown';have xA:iJ w4 A' (cuts++[last]):=vN (n:=n2+1) (by rw[dB];exact hown') (by simp[fe]);have hbl:Below B w w4:=((Below.refl B w).alloc hBw _).grown hgrow (by simp;omega) (λg hg=>aB jZ.out g hg);have HE:=aa (And.intro xA hbl);clear xA hbl hown' hgrow;go_wp2;go_ret;exact⟨_,_,rfl,HE.out.1,hq1,by unfold maxLen at hq2;omega,HE.out.2⟩
end
end Go.Proofs.YthoemdibbldndaaGreatDoor.Mk
