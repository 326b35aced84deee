/- An append to a row of the call's own: its result lies where the row lay, or in new memory. -/
import Derived.Test.YthoemdibbldndaaGreatDoorGA
import Derived.Laws.OwnMore
set_option linter.all false
set_option maxHeartbeats 0
set_option maxRecDepth 20000
open Go.Value renaming int->Yp,string->Yq,slice->Yr,bool->Ys,pointer->Yt
open Go.IntKind renaming i64->Yv
open Go.Obj renaming cells->Yw
open Go.Ending renaming returned->Yx
open Go renaming World->YA
namespace Go.Proofs.YthoemdibbldndaaGreatDoor
open Go.RowKit
theorem bG(w:YA)(o:Obj)(n:Nat)(h:n=w.1.size):(w.alloc o).1[n]?=some o:=by subst h;exact heap_alloc_new w o
theorem fB(w:YA)(o:Obj)(n:Nat)(h:n<w.1.size):(w.alloc o).1[n]?=w.1[n]?:=by first|exact heap_alloc_old w o h|exact heap_alloc_old w o n h
def pK(w:YA)(v v':Value):Prop:=v'.ownBlock=v.ownBlock\/∀g,v'.ownBlock=some g->w.1.size<=g
theorem wO{P:Program}(w:World)(base:Nat)(t ty e:TypeId)(i:TypeInfo)(z:Value)(size bytes:Nat)(ht:P.underlying t=some (.slice e))(hi:P.info? e=some i)(hz:i.zero=some z)
  (hsize:i.size=size) (hby:i.bytes=bytes) (hzs:z.cells.size=size) (hsz:0<size)
  (v:Value) (n:Nat) (xs:List Value) (hown:w.ownsRow base e size v n xs)
  (a:Addr) (m c:Nat) (news:List Value) (hl:news.length=m*size) (hnews:∀j u,news[j]?=some u->w.cell? (a.add j)=some u) (h1:∀u∈news,u.oneCell'=true)
  (h63:n+m<=maxLen) (hbytes:(n+m)*bytes<=140737488355328) {v':Value} {w':YA}
  (hr:(Builtin.append_ #[t,t] ty #[v,Yr (some a) m c]).run P w=.ok v' w'):pK w v v':=by
 have hsmall:n+m<=9223372036854775807:=by simp only[maxLen]at h63;omega
 rcases hown.2 with⟨rfl,rfl⟩|⟨g,cap,cur,rfl,hbg,hg,hnc,hcm,hcs,htake⟩
 ·have hx:xs=[]:=List.eq_nil_of_length_eq_zero (by simpa using hown.1);subst hx;obtain⟨v2,w2,hr2,gg,_⟩:=run_append_own (P:=P) w w.1.size t ty e i z size bytes ht hi hz hsize hby hzs hsz _ 0 [] (World.ownsRow_nil w w.1.size e size) a m c news hl hnews h1 h63 hbytes (Nat.le_refl _);rw[hr]at hr2;simp only[Result.ok.injEq]at hr2;obtain⟨rfl,rfl⟩:=hr2;exact .inr λg hg=>aD gg g hg
 by_cases hroom:n+m<=cap
 ·obtain⟨w2,hr2,_⟩:=run_append_fits (P:=P) w base t ty e i size ht hi hsize g n cap xs hown a m c news hl hnews h1 hroom;rw[hr]at hr2;simp only[Result.ok.injEq]at hr2;obtain⟨rfl,rfl⟩:=hr2;exact .inl rfl
 have holds:∀j u,xs[j]?=some u->w.cell? ((⟨g,0,none⟩:Addr).add j)=some u:=hown.cells (g:=g) rfl;subst hsize;subst hby;have hr2:=run_append_grow (P:=P) w t ty e i z ht hi hz ⟨g,0,none⟩ n cap xs hown.1 holds a m c news hl hnews (by omega) (by omega) (growslice_fits (by omega) hbytes);rw[hr]at hr2;simp only[Result.ok.injEq]at hr2;obtain⟨rfl,rfl⟩:=hr2;refine .inr λg' hg'=>?_
 simp only[Value.ownBlock,Option.some.injEq]at hg';omega
theorem rM{P:Program}{o:Oper}{a:Act}{w:YA}{K:Act->YA->Prop}{Q:Exit->Act->YA->Prop}(s x:Operand)(t:TypeId)
  (ho:o.op=.call { callee:=.builtin .append,args:=#[s,x],argTypes:=#[t,t] })
  (base:Nat) (e:TypeId) (i:TypeInfo) (z:Value) (size bytes:Nat) (ht:P.underlying t=some (.slice e)) (hi:P.info? e=some i) (hz:i.zero=some z)
  (hsize:i.size=size) (hby:i.bytes=bytes) (hzs:z.cells.size=size) (hsz:0<size)
  (v:Value) (n:Nat) (xs:List Value) (hs:a.eval s=v) (hown:w.ownsRow base e size v n xs)
  (ad:Addr) (m c:Nat) (news:List Value) (hx:a.eval x=Yr (some ad) m c) (hl:news.length=m*size) (hnews:∀j u,news[j]?=some u->w.cell? (ad.add j)=some u) (h1:∀u∈news,u.oneCell'=true)
  (h63:n+m<=maxLen) (hbytes:(n+m)*bytes<=140737488355328) (hbase:base<=w.1.size)
  (h:∀v' w',w'.ownsRow base e size v' (n+m) (xs++news)->w.grownBy w' v.ownBlock->pK w v v'->K (a.put o.dst v') w'):o.wp P a w K Q:=by
 obtain⟨v',w',hr,h2,h3,h4⟩:=run_append_own (P:=P) w base t o.type e i z size bytes ht hi hz hsize hby hzs hsz v n xs hown ad m c news hl hnews h1 h63 hbytes hbase;have h5:=wO (P:=P) w base t o.type e i z size bytes ht hi hz hsize hby hzs hsz v n xs hown ad m c news hl hnews h1 h63 hbytes hr;unfold Oper.wp execOp;simp only[ho,resolve,invoke,builtin,Sem.run_bind,Sem.run_pure,Result.andThen_ok,List.map_toArray,List.map_cons,List.map_nil,hs,hx,hr];exact h v' w' h2 h3 h5
theorem uU{P:Program}{ops:Array Oper}{rest:List Oper}{o:Oper}{a:Act}{w:YA}{Q:Exit->Act->YA->Prop}(hgd:o.guard=none)(s x:Operand)(t:TypeId)
  (ho:o.op=.call { callee:=.builtin .append,args:=#[s,x],argTypes:=#[t,t] })
  (base:Nat) (e:TypeId) (i:TypeInfo) (z:Value) (size bytes:Nat) (ht:P.underlying t=some (.slice e)) (hi:P.info? e=some i) (hz:i.zero=some z)
  (hsize:i.size=size) (hby:i.bytes=bytes) (hzs:z.cells.size=size) (hsz:0<size)
  (v:Value) (n:Nat) (xs:List Value) (hs:a.eval s=v) (hown:w.ownsRow base e size v n xs)
  (ad:Addr) (m c:Nat) (news:List Value) (hx:a.eval x=Yr (some ad) m c) (hl:news.length=m*size) (hnews:∀j u,news[j]?=some u->w.cell? (ad.add j)=some u) (h1:∀u∈news,u.oneCell'=true)
  (h63:n+m<=maxLen) (hbytes:(n+m)*bytes<=140737488355328) (hbase:base<=w.1.size)
  (h:∀v' w',w'.ownsRow base e size v' (n+m) (xs++news)->w.grownBy w' v.ownBlock->pK w v v'->wpList P ops Q rest (a.put o.dst v') w'):wpList P ops Q (o :: rest) a w:=
 wpList_plain hgd λ_ hK=>rM s x t ho base e i z size bytes ht hi hz hsize hby hzs hsz v n xs hs hown ad m c news hx hl hnews h1 h63 hbytes hbase λv' w' h2 h3 h4=>hK _ _ (h v' w' h2 h3 h4)
theorem jA{P:Program}{ops:Array Oper}{o:Oper}{a:Act}{w:YA}{K:Act->YA->Prop}{Q:Exit->Act->YA->Prop}{E:Prop}
  (hg:o.guard=none) (s x:Operand) (t:TypeId) (hop:o.op=Op.call { callee:=Callee.builtin Builtin.append,args:=#[s,x],argTypes:=#[t,t] })
  (base:Nat) (e:TypeId) (i:TypeInfo) (z:Value) (size bytes:Nat) (ht:P.underlying t=some (.slice e)) (hi:P.info? e=some i) (hz:i.zero=some z)
  (hsize:i.size=size) (hby:i.bytes=bytes) (hzs:z.cells.size=size) (hsz:0<size)
  (v:Value) (n:Nat) (xs:List Value) (hs:a.eval s=v) (hown:w.ownsRow base e size v n xs)
  (ad:Addr) (m c:Nat) (news:List Value) (hx:a.eval x=Yr (some ad) m c) (hl:news.length=m*size) (hnews:∀j u,news[j]?=some u->w.cell? (ad.add j)=some u) (h1:∀u∈news,u.oneCell'=true)
  (h63:n+m<=maxLen) (hbytes:(n+m)*bytes<=140737488355328) (hbase:base<=w.1.size)
  (h:∀v' w',w'.ownsRow base e size v' (n+m) (xs++news)->w.grownBy w' v.ownBlock->pK w v v'->K (a.put o.dst v') w') :
  if Region.wanted o (yielded ops a.tmps)=true then Oper.wp P o a w K Q else E:=by
 have hw:Region.wanted o (yielded ops a.tmps)=true:=by simp[Region.wanted,hg]
 rw[if_pos hw];exact rM s x t hop base e i z size bytes ht hi hz hsize hby hzs hsz v n xs hs hown ad m c news hx hl hnews h1 h63 hbytes hbase h
theorem vC{w:YA}{B e size n cap:Nat}{A:Option Addr}{xs:List Value}(h:w.ownsRow B e size (Yr A n cap) n xs)(m:Nat)(hm:m<=n):w.ownsRow B e size (Yr A m cap) m (xs.take (m*size)):=by
 refine⟨by rw[List.length_take,h.1];exact Nat.min_eq_left (Nat.mul_le_mul_right _ hm),?_⟩;rcases h.2 with⟨e1,rfl⟩|⟨g,cap',cur,e1,h2,h3,h4,h5,h6,h7⟩
 ·simp only[Value.slice.injEq]at e1;obtain⟨rfl,_,rfl⟩:=e1;obtain rfl:m=0:=by omega
  exact .inl ⟨rfl,rfl⟩
 simp only[Value.slice.injEq]at e1;obtain⟨rfl,_,rfl⟩:=e1;refine .inr ⟨g,cap,cur,rfl,h2,h3,by omega,h5,h6,?_⟩;rw[<-h7,List.take_take,Nat.min_eq_left (Nat.mul_le_mul_right _ hm)]
end Go.Proofs.YthoemdibbldndaaGreatDoor
namespace Go.Proofs.YthoemdibbldndaaGreatDoor.Mk
open Go.RowKit
section
abbrev iw:TypeId:=180
structure Mo where
 v:Value
 op:List St.It
 c:Nat
def Mo.l(m:Mo):List Value:=[m.v,Yp Yv (m.c:Int)]
variable {mo:Mo}
def Ad(a b:Value):Prop:=a.ownBlock=none\/a.ownBlock≠b.ownBlock
theorem vY{a b:Value}(h:Ad a b):Ad b a:=by
 unfold Ad at h |-;cases hb:b.ownBlock with
 | none=>exact .inl rfl
 | some x=>
  refine .inr λe=>?_
  rcases h with h|h
  ·rw[h]at e;cases e
  exact h (by rw[hb,e])
def BV(mo:Mo)(w:YA)(B b:Nat)(v0 v1 v2:Value)(ah:List St.It)(tx:List UInt8)(cuts:List Nat):Prop:=
 B<=b/\w.1[b]?=some (Yw ⟨v0 :: v1 :: v2 :: mo.l⟩ iw (0,0))/\w.ownsRow B 36 3 v0 ah.length (ak ah)/\w.ownsRow B 5 1 v1 tx.length (Lib.byteCells tx)/\w.ownsRow B 3 1 v2 cuts.length (fc cuts) /\
  w.ownsRow B 36 3 mo.v mo.op.length (ak mo.op)/\Ad v0 mo.v
def ci(mo:Mo)(w:YA)(B b:Nat)(ah:List St.It)(tx:List UInt8)(cuts:List Nat):Prop:=∃v0 v1 v2,BV mo w B b v0 v1 v2 ah tx cuts
theorem BV.ai{a c:YA}{B b:Nat}{v0 v1 v2:Value}{ah:List St.It}{tx:List UInt8}{cuts:List Nat}(h:BV mo a B b v0 v1 v2 ah tx cuts)(u:ac a c):BV mo c B b v0 v1 v2 ah tx cuts:=by
 obtain⟨h0,h1,h2,h3,h4,h5,h6⟩:=h;exact⟨h0,(u.below.block b (ae h1)).trans h1,aH u h2,aH u h3,aH u h4,aH u h5,h6⟩
theorem ci.ai{a c:YA}{B b:Nat}{ah:List St.It}{tx:List UInt8}{cuts:List Nat}(h:ci mo a B b ah tx cuts)(u:ac a c):ci mo c B b ah tx cuts:=by
 obtain⟨v0,v1,v2,h⟩:=h;exact⟨v0,v1,v2,h.ai u⟩
theorem BV.Ia{w w4:YA}{B b:Nat}{v0 v1 v2 v':Value}{ah:List St.It}{tx jG:List UInt8}{cuts:List Nat}(h:BV mo w B b v0 v1 v2 ah tx cuts)(hg:w.grownBy w4 v1.ownBlock)(ho:w4.ownsRow B 5 1 v' jG.length (Lib.byteCells jG)) :
  BV mo (w4.setCell ⟨b,1,none⟩ v') B b v0 v' v2 ah jG cuts:=by
 obtain⟨h0,h1,h2,h3,h4,h5,h6⟩:=h;have hb4:w4.1[b]?=some (Yw ⟨v0 :: v1 :: v2 :: mo.l⟩ iw (0,0)):=(hg.block b (ae h1) (λe=>aS h3 h1 (by decide) e.symm)).trans h1;exact⟨h0,heap_setCell_same w4 b 1 _ _ v' hb4,aC (h2.kept hg (da h2 h3 (by decide))) (aS h2 h1 (by decide)),aC ho (aS ho hb4 (by decide)),aC (h4.kept hg (da h4 h3 (by decide))) (aS h4 h1 (by decide)),aC (h5.kept hg (da h5 h3 (by decide))) (aS h5 h1 (by decide)),h6⟩
theorem BV.xQ{w w4:YA}{B b:Nat}{v0 v1 v2 v':Value}{ah:List St.It}{tx:List UInt8}{cuts rU:List Nat}(h:BV mo w B b v0 v1 v2 ah tx cuts)(hg:w.grownBy w4 v2.ownBlock)(ho:w4.ownsRow B 3 1 v' rU.length (fc rU)) :
  BV mo (w4.setCell ⟨b,2,none⟩ v') B b v0 v1 v' ah tx rU:=by
 obtain⟨h0,h1,h2,h3,h4,h5,h6⟩:=h;have hb4:w4.1[b]?=some (Yw ⟨v0 :: v1 :: v2 :: mo.l⟩ iw (0,0)):=(hg.block b (ae h1) (λe=>aS h4 h1 (by decide) e.symm)).trans h1;exact⟨h0,heap_setCell_same w4 b 2 _ _ v' hb4,aC (h2.kept hg (da h2 h4 (by decide))) (aS h2 h1 (by decide)),aC (h3.kept hg (da h3 h4 (by decide))) (aS h3 h1 (by decide)),aC ho (aS ho hb4 (by decide)),aC (h5.kept hg (da h5 h4 (by decide))) (aS h5 h1 (by decide)),h6⟩
theorem AM{w W:YA}{B e n:Nat}{v0 v' v3:Value}{xs:List Value}(h5:w.ownsRow B e 3 v3 n xs)(hw:w.1.size<=W.1.size)(h6:Ad v0 v3)(hf:pK W v0 v'):Ad v' v3:=by
 unfold Ad at h6 |-;rcases hf with hf|hf
 ·rw[hf];exact h6
 cases hv:v'.ownBlock with
 | none=>exact .inl rfl
 | some g=>
  refine .inr λe=>?_
  have:=hf g hv
  have:=(h5.lt g e.symm).2
  omega
theorem BV.xP{w W w4:YA}{B b:Nat}{v0 v1 v2 v':Value}{ah fI:List St.It}{tx:List UInt8}{cuts:List Nat}(h:BV mo w B b v0 v1 v2 ah tx cuts)(hg:w.grownBy w4 v0.ownBlock)(hw:w.1.size<=W.1.size)(hf:pK W v0 v')(ho:w4.ownsRow B 36 3 v' fI.length (ak fI)) :
  BV mo (w4.setCell ⟨b,0,none⟩ v') B b v' v1 v2 fI tx cuts:=by
 obtain⟨h0,h1,h2,h3,h4,h5,h6⟩:=h;have hb4:w4.1[b]?=some (Yw ⟨v0 :: v1 :: v2 :: mo.l⟩ iw (0,0)):=(hg.block b (ae h1) (λe=>aS h2 h1 (by decide) e.symm)).trans h1;exact⟨h0,heap_setCell_same w4 b 0 _ _ v' hb4,aC ho (aS ho hb4 (by decide)),aC (h3.kept hg (da h3 h2 (by decide))) (aS h3 h1 (by decide)),aC (h4.kept hg (da h4 h2 (by decide))) (aS h4 h1 (by decide)),aC (h5.kept hg (vY h6)) (aS h5 h1 (by decide)),AM h5 hw h6 hf⟩
theorem BV.C3{w:YA}{B b:Nat}{v0 v1 v2:Value}{ah:List St.It}{tx:List UInt8}{cuts:List Nat}(h:BV mo w B b v0 v1 v2 ah tx cuts):BV mo (w.setCell ⟨b,1,none⟩ (Yr none 0 0)) B b v0 (Yr none 0 0) v2 ah [] cuts:=by
 obtain⟨h0,h1,h2,h3,h4,h5,h6⟩:=h;exact⟨h0,heap_setCell_same w b 1 _ _ _ h1,aC h2 (aS h2 h1 (by decide)),World.ownsRow_nil _ _ _ _,aC h4 (aS h4 h1 (by decide)),aC h5 (aS h5 h1 (by decide)),h6⟩
theorem oZ(w:YA)(B b:Nat)(ah:List St.It)(tx:List UInt8)(cuts:List Nat)(t:Bool)(h:ci mo w B b ah tx cuts)(h1:ah.length<=600)(h2:cuts.length<=2000) :
  Calls Tryz.prog 190 #[Yt (some ⟨b,0,none⟩),Ys t] w λe w'=>e=Yx (Ys (St.aT ah.length tx.length cuts.length t))/\w=w':=by
 obtain⟨v0,v1,v2,_,hb,h3,h4,h5,_⟩:=h;obtain⟨A0,c0,rfl,_⟩:=aI h3;obtain⟨A1,c1,rfl,_⟩:=aI h4;obtain⟨A2,c2,rfl,_⟩:=aI h5;have g0:w.cell? ⟨b,0,none⟩=some (Yr A0 ah.length c0):=aj hb 0;have g1:w.cell? ⟨b,1,none⟩=some (Yr A1 tx.length c1):=aj hb 1;have g2:w.cell? ⟨b,2,none⟩=some (Yr A2 cuts.length c2):=aj hb 2;haveI:af b w:=af.of (ae hb);clear hb h3 h4 h5;unfold St.aT;generalize ah.length=n0 at *;generalize tx.length=n1 at *;generalize cuts.length=n2 at *;rcases Nat.eq_zero_or_pos n1 with z|z
 ·subst z;cases t<;>
  ·by_cases q1:512<n0+1<;>by_cases q2:1024<n2+1<;>
   ·have q1':=q1;have q2':=q2;go_enter Tryz.func190,Tryz.ntmps190;go_wp2;go_ret;exact⟨az (by simp<;>omega),rfl⟩
 have z':(0:Int)<(n1:Int):=by omega
 cases t
 ·by_cases q1:512<n0+1+1<;>by_cases q2:1024<n2+1<;>
  ·go_enter Tryz.func190,Tryz.ntmps190;go_wp2;go_ret;exact⟨az (by simp<;>omega),rfl⟩
 by_cases q1:512<n0+1<;>by_cases q2:1024<n2+1<;>
 ·go_enter Tryz.func190,Tryz.ntmps190;go_wp2;go_ret;exact⟨az (by simp<;>omega),rfl⟩
end
section
variable {mo:Mo}
theorem dz{B b i:Nat}{w w2 w4:YA}{row:Option Nat}{v:Value}(h:Below B w w2)(hBw:B<=w2.1.size)(hg:w2.grownBy w4 row)(hr:∀g,row=some g->B<=g)(hB:B<=b):Below B w (w4.setCell ⟨b,i,none⟩ v):=
 (h.grown hg hBw hr).setCell (p:=⟨b,i,none⟩) hB v
theorem oR(w:YA)(B b:Nat)(ah:List St.It)(tx:List UInt8)(cuts:List Nat)(c:UInt8)(off:Nat)(h:ci mo w B b ah tx cuts)(h1:ah.length<=600)(h2:cuts.length<=2000)(h3:tx.length<=2000)(hBw:B<=w.1.size) :
  Calls Tryz.prog 162 #[Yt (some ⟨b,0,none⟩),Yp .u8 c.toNat,Yp Yv off] w λe w'=>
   e=Yx (Ys (!St.aT ah.length tx.length cuts.length true))/\(St.aT ah.length tx.length cuts.length true=false->ci mo w' B b ah (tx++[c]) (cuts++[off]))/\Below B w w':=by
 have hf:=oZ w B b ah tx cuts true h h1 h2;cases hb:St.aT ah.length tx.length cuts.length true
 ·rw[hb]at hf;obtain⟨v0,v1,v2,hv⟩:=h;have HV:=aa hv;obtain⟨hB,hbk,ho0,ee,gg,cZ,hds⟩:=hv;obtain⟨A1,c1,rfl,_⟩:=aI ee;obtain⟨A2,c2,rfl,_⟩:=aI gg;have g1:w.cell? ⟨b,1,none⟩=some (.slice A1 tx.length c1):=aj hbk 1;have g2:w.cell? ⟨b,2,none⟩=some (.slice A2 cuts.length c2):=aj hbk 2;have f1:w.frozen? ⟨b,1,none⟩=false:=bu hbk 1;have hlt:=ae hbk;haveI:af b w:=af.of hlt;obtain⟨i8,hi,hz0,hz1,hz2⟩:=info_parts qg;obtain⟨ii,ki,kz0,kz1,kz2⟩:=info_parts gQ;have HF:=aa hf;have nD:=aa ee;have HB:=aa hB;generalize jk:tx.length=n1 at *;generalize fD:cuts.length=n2 at *;clear hf hbk ho0 ee gg cZ hds hB;go_enter Tryz.func162,Tryz.ntmps162;go_wp2_with fail;refine HF.out.mono ?_;rintro e w' ⟨rfl,rfl⟩;go_wp2_with (at_builtin;refine wpList_append_own _ rfl _ _ 22 rfl B 5 i8 (.int .u8 0) 1 1 Tryz.underlying22 hi hz0 hz1 hz2 rfl (by decide) (.slice A1 n1 c1) n1 _ rfl (nD.out.alloc _) _ 1 1 [.int .u8 c.toNat] rfl rfl ?_ (by simp;rfl) (by unfold maxLen;omega) (by omega) ?_ ?_)
  ·exact gS _ _ _
  ·simp;omega
  intro v' w4 hown' hgrow _
  have iB:BV mo (w4.setCell ⟨b,1,none⟩ v') B b v0 v' (Yr A2 n2 c2) ah (tx++[c]) cuts:=by
   refine BV.Ia (HV.out.ai ((ac.refl w).alloc _)) hgrow ?_;rw[xx,List.length_append,List.length_singleton,jk];exact hown'
  have lx:Below B w (w4.setCell ⟨b,1,none⟩ v'):=dz ((Below.refl B w).alloc hBw _) (by simp;omega) hgrow (λg hg=>aD nD.out g hg) HB.out
  have hb4:w4.1[b]?=some (Yw ⟨v0 :: Yr A1 n1 c1 :: Yr A2 n2 c2 :: mo.l⟩ iw (0,0)):=by
   obtain⟨q0,q1,_,q3,_⟩:=HV.out.ai ((ac.refl w).alloc (Yw #[Yp .u8 c.toNat] 5));exact(hgrow.block b (ae q1) (λe=>aS q3 q1 (by decide) e.symm)).trans q1
  obtain⟨Jq,c1',rfl,_⟩:=aI hown';have e1:w4.cell? ⟨b,1,none⟩=some (Yr A1 n1 c1):=aj hb4 1;have QU:w4.frozen? ⟨b,1,none⟩=false:=bu hb4 1;have e2:w4.cell? ⟨b,2,none⟩=some (Yr A2 n2 c2):=aj hb4 2;have QV:w4.frozen? ⟨b,2,none⟩=false:=bu hb4 2;haveI:af b w4:=af.of (ae hb4);have ls:=aa iB;have oI:=aa lx;have j4:=aa iB.2.2.2.2.1;have nW:B<=w4.1.size:=by have:=lx.size;simp at this;omega
  clear iB lx hb4 hown' hgrow g1 g2 f1;go_wp2_with (at_builtin;refine wpList_append_own _ rfl _ _ 42 rfl B 3 ii (.int .i64 0) 1 8 Tryz.underlying42 ki kz0 kz1 kz2 rfl (by decide) (.slice A2 n2 c2) n2 _ rfl (by have:=j4.out.alloc (.cells #[.int .i64 off] 3);rw[fD]at this;exact this) _ 1 1 [.int .i64 off] rfl rfl ?_ (by simp;rfl) (by unfold maxLen;omega) (by omega) ?_ ?_)
  ·exact uL _ _ _ _ (by simp)
  ·simp;omega
  intro v2' w6 hown2 hgrow2 _
  have o6:BV mo (w6.setCell ⟨b,2,none⟩ v2') B b v0 (Yr Jq (n1+1) c1') v2' ah (tx++[c]) (cuts++[off]):=by
   refine BV.xQ (ls.out.ai ((ac.refl _).alloc _)) hgrow2 ?_;rw[dF,List.length_append,List.length_singleton,fD];exact hown2
  have pa:Below B w (w6.setCell ⟨b,2,none⟩ v2'):=dz (oI.out.alloc (by simp;omega) _) (by simp;omega) hgrow2 (λg hg=>aD j4.out g hg) HB.out
  have fY:w6.1[b]?=some (Yw ⟨v0 :: Yr Jq (n1+1) c1' :: Yr A2 n2 c2 :: mo.l⟩ iw (0,0)):=by
   obtain⟨q0,q1,_,_,q4,_⟩:=ls.out.ai ((ac.refl _).alloc (Yw #[Yp Yv off] 3));exact(hgrow2.block b (ae q1) (λe=>aS q4 q1 (by decide) e.symm)).trans q1
  obtain⟨Qe,c2',rfl,_⟩:=aI hown2;have d2:w6.cell? ⟨b,2,none⟩=some (Yr A2 n2 c2):=aj fY 2;have QQ:w6.frozen? ⟨b,2,none⟩=false:=bu fY 2;haveI:af b w6:=af.of (ae fY);have HE:=aa (And.intro o6 pa);clear o6 pa fY hown2 hgrow2 e1 e2 QU QV ls oI;go_wp2;go_ret;exact⟨rfl,λ_=>⟨_,_,_,HE.out.1⟩,HE.out.2⟩
 rw[hb]at hf;have HF:=aa hf;clear hf h;go_enter Tryz.func162,Tryz.ntmps162;go_wp2_with fail;refine HF.out.mono ?_;rintro e w' ⟨rfl,rfl⟩;go_wp2;go_ret;exact⟨rfl,(λh=>nomatch h),Below.refl _ _⟩
theorem oT{w:YA}{B n c:Nat}{A:Option Addr}{l:List UInt8}(h:w.ownsRow B 5 1 (Yr A n c) n (Lib.byteCells l))(h0:0<n) :
  (convert 22 9 (Yr A n c)).run Tryz.prog w=.ok (Yq ⟨l.toArray⟩) w:=by
 have hl:l.length=n:=by have:=h.1;rw[Lib.byteCells_length]at this;simpa using this
 obtain⟨g,rfl,_,_,hc⟩:=eE h h0
 rw[run_convert_bytes_arg w 22 5 Tryz.underlying22 Tryz.underlying5 g 0 n c (l.map λx=>(x.toNat:Int)) (by simpa using hl) (λi hi=>by
  rw[Nat.zero_add];refine hc i _ ?_;have hil:i<l.length:=by omega
  simp[Lib.byteCells,List.getD_eq_getElem?_getD,hil]) _ Tryz.underlying9]
 simp[strOfNums,Function.comp_def]
theorem BV.after{w w1:YA}{B b:Nat}{v0 v1 v2:Value}{ah:List St.It}{tx:List UInt8}{cuts:List Nat}(h:BV mo w B b v0 v1 v2 ah tx cuts){row:Option Nat}(hg:w.grownBy w1 row)(hr:row=v0.ownBlock\/row=v1.ownBlock\/row=v2.ownBlock) :
  w1.1[b]?=some (Yw ⟨v0 :: v1 :: v2 :: mo.l⟩ iw (0,0)):=by
 obtain⟨_,h1,h2,h3,h4,_⟩:=h;refine(hg.block b (ae h1) (λe=>?_)).trans h1;rcases hr with rfl|rfl|rfl
 ·exact aS h2 h1 (by decide) e.symm
 ·exact aS h3 h1 (by decide) e.symm
 exact aS h4 h1 (by decide) e.symm
theorem BV.cells{w:YA}{B b:Nat}{v0 v1 v2:Value}{ah:List St.It}{tx:List UInt8}{cuts:List Nat}(h:BV mo w B b v0 v1 v2 ah tx cuts):∃A0 c0 A1 c1 A2 c2,v0=Yr A0 ah.length c0/\v1=Yr A1 tx.length c1/\v2=Yr A2 cuts.length c2:=by
 obtain⟨_,_,h2,h3,h4,_⟩:=h;obtain⟨A0,c0,e0,_⟩:=aI h2;obtain⟨A1,c1,e1,_⟩:=aI h3;obtain⟨A2,c2,e2,_⟩:=aI h4;exact⟨A0,c0,A1,c1,A2,c2,e0,e1,e2⟩
theorem nL(w W:YA)(B b:Nat)(ah:List St.It)(tx:List UInt8)(cuts:List Nat)(h:ci mo w B b ah tx cuts)(hu:ac w W)(h1:ah.length<=600)(h3:tx.length<=2000)(hBw:B<=w.1.size) :
  Calls Tryz.prog 121 #[Yt (some ⟨b,0,none⟩)] W λe w'=>
   e=Yx (.tuple #[])/\ci mo w' B b (ah++St.cm tx) [] cuts/\Below B W w'/\∀k,w.1.size<=k->k<W.1.size->w'.1[k]?=W.1[k]?:=by
 obtain⟨v0,v1,v2,hv⟩:=h;have Ww:=ae hv.2.1;have hol:∀g,v0.ownBlock=some g->g<w.1.size:=λg hg=>(hv.2.2.1.lt g hg).2
 replace hv:=hv.ai hu
 have fs:B<=W.1.size:=Nat.le_trans hBw hu.size;have HV:=aa hv;obtain⟨A0,c0,A1,c1,A2,c2,rfl,rfl,rfl⟩:=hv.cells;obtain⟨hB,hbk,ho0,ee,gg,cZ,hds⟩:=hv;have g0:W.cell? ⟨b,0,none⟩=some (Yr A0 ah.length c0):=aj hbk 0;have g1:W.cell? ⟨b,1,none⟩=some (Yr A1 tx.length c1):=aj hbk 1;haveI:af b W:=af.of (ae hbk);have qU:=aa ho0;have nD:=aa ee;have HB:=aa hB;have JB:=aa hol;have Wv:=hu.size;rcases Nat.eq_zero_or_pos tx.length with z|z
 ·have htx:tx=[]:=List.eq_nil_of_length_eq_zero z;subst htx;clear ho0 ee gg cZ hds hbk hB hol;go_enter Tryz.func121,Tryz.ntmps121;go_wp2;go_end0;exact⟨rfl,⟨_,_,_,by simpa[St.cm]using HV.out⟩,Below.refl _ _,λ_ _ _=>rfl⟩
 have z':(0:Int)<(tx.length:Int):=by omega
 have hcv:=oT ee z;have U8:(convert 22 9 (.slice A1 tx.length c1)).run Tryz.prog W.drew=.ok (.string ⟨tx.toArray⟩) W.drew:=oT (w:=W.drew) ee z;obtain⟨i0,hi,hz0,hz1,hz2⟩:=info_parts dM;have xV:ac W W.drew:=uZ;have Wa:=aa (HV.out.ai xV);generalize hn0:ah.length=n0 at *;generalize jk:tx.length=n1 at *;clear ho0 ee gg cZ hds hbk hB hol hcv;go_enter Tryz.func121,Tryz.ntmps121;go_wp2_with fail;go_region_law (refine jA rfl (.tmp 12) (.tmp 19) 37 rfl B 36 i0 (.agg #[.int .i64 0,.string ⟨#[]⟩,.int .i64 0]) 3 32 Tryz.underlying37 hi hz0 hz1 hz2 rfl (by decide) (.slice A0 n0 c0) n0 _ rfl (dN (qU.out.alloc (.cells #[.int .i64 1,.string ⟨tx.toArray⟩,.int .i64 0] 36)) (ac.refl _).drew) ⟨W.1.size,0,none⟩ 1 1 [.int .i64 1,.string ⟨tx.toArray⟩,.int .i64 0] rfl rfl (eL W _ _ _ 36 _ rfl) (cX 1 0 _) (by unfold maxLen;omega) (by omega) (by simp;omega) ?_;intro v' w1 hown' hgrow ug;have hgr:=aN (ac.gb (uZ:ac W (W.alloc (.cells #[.int .i64 1,.string ⟨tx.toArray⟩,.int .i64 0] 36)).drew) (Value.slice A0 n0 c0).ownBlock) hgrow (λg e=>Or.inl e);have hb4:=HV.out.after hgr (Or.inl rfl);have e0:w1.cell? ⟨b,0,none⟩=some (.slice A0 n0 c0):=aj hb4 0;have e1:w1.cell? ⟨b,1,none⟩=some (.slice A1 n1 c1):=aj hb4 1;have f0:w1.frozen? ⟨b,0,none⟩=false:=bu hb4 0;have f1:w1.frozen? ⟨b,1,none⟩=false:=bu hb4 1;haveI:af b w1:=af.of (ae hb4);obtain⟨A',c',rfl,_⟩:=aI hown')
 all_goals
  have iB:BV mo (w1.setCell ⟨b,0,none⟩ (Yr A' (n0+1) c')) B b (Yr A' (n0+1) c') (Yr A1 n1 c1) (Yr A2 cuts.length c2) (ah++[(1,tx,0)]) tx cuts:=by
   refine BV.xP HV.out hgr (by simp) ug ?_;rw[bM,List.length_append,List.length_singleton,hn0];exact hown'
  have hbl:Below B W (w1.setCell ⟨b,0,none⟩ (Yr A' (n0+1) c')):=dz (Below.refl B W) fs hgr (λg hg=>aD qU.out g hg) HB.out;have hfr:∀k,w.1.size<=k->k<W.1.size->w1.1[k]?=W.1[k]?:=λk hk hk2=>hgr.block k hk2 (λe=>by have:=JB.out k e.symm;omega)
  have HE:=aa (And.intro iB (And.intro hbl hfr));clear iB hbl hfr hgr hgrow hown' hb4 ug;go_wp2;go_end0;have ht:St.cm tx=[(1,tx,0)]:=by unfold St.cm;rw[if_neg (by intro e;rw[e]at jk;simp at jk;omega)]
  have eT:ci mo ((w1.setCell ⟨b,0,none⟩ (Yr A' (n0+1) c')).setCell ⟨b,1,none⟩ (Yr none 0 0)) B b (ah++St.cm tx) [] cuts:=by
   rw[ht];exact⟨_,_,_,HE.out.1.C3⟩
  refine⟨rfl,eT,HE.out.2.1.setCell (p:=⟨b,1,none⟩) HB.out _,λk hk hk2=>?_⟩;rw[heap_setCell_other _ _ _ _ (by show k≠b;omega),heap_setCell_other _ _ _ _ (by show k≠b;omega)];exact HE.out.2.2 k hk hk2
end
section
variable {mo:Mo}
theorem wT(t:List UInt8):(St.cm t).length<=1:=by rw[St.vk];split<;>omega
theorem lA(w:YA)(B b:Nat)(ah:List St.It)(tx:List UInt8)(cuts:List Nat)(k i:Int)(s:ByteArray)(off:Nat)(h:ci mo w B b ah tx cuts)(h1:ah.length<=600)(h2:cuts.length<=2000)(h3:tx.length<=2000)(hBw:B<=w.1.size) :
  Calls Tryz.prog 164 #[Yt (some ⟨b,0,none⟩),.agg #[Yp Yv k,Yq s,Yp Yv i],Yp Yv off] w λe w'=>
   e=Yx (Ys (!St.aT ah.length tx.length cuts.length false))/\(St.aT ah.length tx.length cuts.length false=false->ci mo w' B b (ah++St.cm tx++[(k,s.1.1,i)]) [] (cuts++[off]))/\Below B w w':=by
 have huA:ac w (w.alloc (Yw #[Yp Yv k,Yq s,Yp Yv i] 36)):=uZ;have hf:=oZ _ B b ah tx cuts false (h.ai huA) h1 h2;have hfl:=nL w _ B b ah tx cuts h huA h1 h3 hBw;have nZ:=aa hfl;cases hb:St.aT ah.length tx.length cuts.length false
 ·rw[hb]at hf;have HF:=aa hf;clear hf hfl h;go_enter Tryz.func164,Tryz.ntmps164;go_wp2_with fail;refine HF.out.mono ?_;rintro e w' ⟨rfl,rfl⟩;go_wp2_with fail;refine nZ.out.mono ?_;rintro e w2 ⟨rfl,⟨v0,v1,v2,hv⟩,hbl,hfr⟩;have pc:w2.1[w.1.size]?=some (Yw #[Yp Yv k,Yq s,Yp Yv i] 36 (0,0)):=(hfr _ (Nat.le_refl _) (by simp)).trans (heap_alloc_new w _);have x0:w2.cell? ⟨w.1.size,0,none⟩=some (Yp Yv k):=aj pc 0;have x1:w2.cell? ⟨w.1.size,1,none⟩=some (Yq s):=aj pc 1;have x2:w2.cell? ⟨w.1.size,2,none⟩=some (Yp Yv i):=aj pc 2;haveI:af w.1.size w2:=af.of (ae pc);have HV:=aa hv;obtain⟨A0,c0,A1,c1,A2,c2,rfl,rfl,rfl⟩:=hv.cells;obtain⟨hB,hbk,ho0,ee,gg,cZ,hds⟩:=hv;have g0:w2.cell? ⟨b,0,none⟩=some (Yr A0 (ah++St.cm tx).length c0):=aj hbk 0;have la:B<=w2.1.size:=Nat.le_trans (Nat.le_trans hBw huA.size) hbl.size;have dd:=aa ((Below.refl B w).alloc hBw (Yw #[Yp Yv k,Yq s,Yp Yv i] 36) |>.trans hbl);have Ve:(ah++St.cm tx).length<=601:=by have:=wT tx;simp;omega
  haveI:af b w2:=af.of (ae hbk);have qU:=aa ho0;have HB:=aa hB;generalize hits:ah++St.cm tx=sh at *;obtain⟨i0,hi,hz0,hz1,hz2⟩:=info_parts dM;obtain⟨ii,ki,kz0,kz1,kz2⟩:=info_parts gQ;generalize hn0:sh.length=n0 at *;generalize fD:cuts.length=n2 at *;clear hbk ho0 ee gg cZ hds hB hbl hfr pc HF nZ;go_wp2_with fail;go_region_law (refine jA rfl (.tmp 15) (.tmp 17) 37 rfl B 36 i0 (.agg #[.int .i64 0,.string ⟨#[]⟩,.int .i64 0]) 3 32 Tryz.underlying37 hi hz0 hz1 hz2 rfl (by decide) (.slice A0 n0 c0) n0 _ rfl (dN (qU.out.alloc (.cells #[.int .i64 k,.string s,.int .i64 i] 36)) (ac.refl _).drew) ⟨w2.1.size,0,none⟩ 1 1 [.int .i64 k,.string s,.int .i64 i] rfl rfl (eL w2 _ _ _ 36 _ rfl) (cX k i _) (by unfold maxLen;omega) (by omega) (by simp;omega) ?_;intro v' w1 hown' hgrow ug;have hgr:=aN (ac.gb (uZ:ac w2 (w2.alloc (.cells #[.int .i64 k,.string s,.int .i64 i] 36)).drew) (Value.slice A0 n0 c0).ownBlock) hgrow (λg e=>Or.inl e);have hb4:=HV.out.after hgr (Or.inl rfl);have e0:w1.cell? ⟨b,0,none⟩=some (.slice A0 n0 c0):=aj hb4 0;have f0:w1.frozen? ⟨b,0,none⟩=false:=bu hb4 0;haveI:af b w1:=af.of (ae hb4);obtain⟨A',c',rfl,_⟩:=aI hown')
  all_goals
   have iB:BV mo (w1.setCell ⟨b,0,none⟩ (Yr A' (n0+1) c')) B b (Yr A' (n0+1) c') (Yr A1 ([]:List UInt8).length c1) (Yr A2 n2 c2) (sh++[(k,s.1.1,i)]) [] cuts:=by
    refine BV.xP HV.out hgr (by simp) ug ?_;rw[bM,List.length_append,List.length_singleton,hn0];simp only[bo];exact hown'
   have lx:Below B w (w1.setCell ⟨b,0,none⟩ (Yr A' (n0+1) c')):=dz dd.out la hgr (λg hg=>aD qU.out g hg) HB.out;have e2:w1.cell? ⟨b,2,none⟩=some (Yr A2 n2 c2):=aj hb4 2;have f2:w1.frozen? ⟨b,2,none⟩=false:=bu hb4 2;have ls:=aa iB;have oI:=aa lx;have j4:=aa iB.2.2.2.2.1;have nW:B<=w1.1.size:=by have:=lx.size;simp at this;omega
   clear iB lx hb4 hown' hgrow hgr ug g0 x0 x1 x2 HV qU dd;go_wp2_with (at_builtin;refine wpList_append_own _ rfl _ _ 42 rfl B 3 ii (.int .i64 0) 1 8 Tryz.underlying42 ki kz0 kz1 kz2 rfl (by decide) (.slice A2 n2 c2) n2 _ rfl (by have:=j4.out.alloc (.cells #[.int .i64 off] 3);rw[fD]at this;exact this) _ 1 1 [.int .i64 off] rfl rfl ?_ (by simp;rfl) (by unfold maxLen;omega) (by omega) ?_ ?_)
   ·exact uL _ _ _ _ (by simp)
   ·simp;omega
   intro v2' w6 hown2 hgrow2 _
   have o6:BV mo (w6.setCell ⟨b,2,none⟩ v2') B b (Yr A' (n0+1) c') (Yr A1 ([]:List UInt8).length c1) v2' (sh++[(k,s.1.1,i)]) [] (cuts++[off]):=by
    refine BV.xQ (ls.out.ai ((ac.refl _).alloc _)) hgrow2 ?_;rw[dF,List.length_append,List.length_singleton,fD];exact hown2
   have pa:Below B w (w6.setCell ⟨b,2,none⟩ v2'):=dz (oI.out.alloc (by simp;omega) _) (by simp;omega) hgrow2 (λg hg=>aD j4.out g hg) HB.out;have fY:=(ls.out.ai ((ac.refl _).alloc (Yw #[Yp Yv off] 3))).after hgrow2 (Or.inr (Or.inr rfl));obtain⟨Qe,c2',rfl,_⟩:=aI hown2;have d2:w6.cell? ⟨b,2,none⟩=some (Yr A2 n2 c2):=aj fY 2;have QQ:w6.frozen? ⟨b,2,none⟩=false:=bu fY 2;haveI:af b w6:=af.of (ae fY);have HE:=aa (And.intro (show ci mo _ B b (sh++[(k,s.1.1,i)]) [] (cuts++[off])from⟨_,_,_,o6⟩) pa);clear o6 pa fY hown2 hgrow2 e0 f0 e2 f2 ls oI;go_wp2;go_ret;subst hits;exact⟨rfl,λ_=>HE.out.1,HE.out.2⟩
 rw[hb]at hf;have HF:=aa hf;clear hf hfl nZ;go_enter Tryz.func164,Tryz.ntmps164;go_wp2_with fail;refine HF.out.mono ?_;rintro e w' ⟨rfl,rfl⟩;go_wp2;go_ret;exact⟨rfl,(λh=>nomatch h),(Below.refl B w).alloc hBw _⟩
theorem qi(w:YA)(B b:Nat)(ah:List St.It)(tx:List UInt8)(cuts:List Nat)(h:ci mo w B b ah tx cuts)(h1:ah.length<=600)(h3:tx.length<=2000)(hBw:B<=w.1.size) :
  Calls Tryz.prog 82 #[Yt (some ⟨b,0,none⟩)] w λe w'=>∃A c,e=Yx (Yr A (ah++St.cm tx).length c)/\aJ w' A (ah++St.cm tx)/\(ah++St.cm tx).length<=c/\c<=9223372036854775807/\Below B w w':=by
 have nZ:=aa (nL w w B b ah tx cuts h (ac.refl w) h1 h3 hBw);clear h;go_enter Tryz.func82,Tryz.ntmps82;go_wp2_with fail;refine nZ.out.mono ?_;rintro e w2 ⟨rfl,⟨v0,v1,v2,hv⟩,hbl,_⟩;obtain⟨A0,c0,A1,c1,A2,c2,rfl,rfl,rfl⟩:=hv.cells;obtain⟨hB,hbk,ho0,ee,gg,cZ,hds⟩:=hv;have g0:w2.cell? ⟨b,0,none⟩=some (Yr A0 (ah++St.cm tx).length c0):=aj hbk 0;haveI:af b w2:=af.of (ae hbk);obtain⟨_,_,hq,hq1,hq2⟩:=aI ho0;simp only[Value.slice.injEq]at hq;obtain⟨rfl,_,rfl⟩:=hq;have HE:=aa (And.intro (a7 ho0 rfl) hbl);clear hbk ho0 ee gg cZ hds hB hbl nZ;generalize DA:ah++St.cm tx=f at *;go_wp2;go_ret;subst DA;exact⟨_,_,rfl,HE.out.1,hq1,by unfold maxLen at hq2;omega,HE.out.2⟩
theorem pV(w:YA)(B b:Nat)(ah:List St.It)(tx:List UInt8)(cuts:List Nat)(last:Nat)(h:ci mo w B b ah tx cuts)(h2:cuts.length<=2000)(hBw:B<=w.1.size) :
  Calls Tryz.prog 112 #[Yt (some ⟨b,0,none⟩),Yp Yv last] w λe w'=>∃A c,e=Yx (Yr A (cuts.length+1) c)/\iP w' A (cuts++[last])/\cuts.length+1<=c/\c<=9223372036854775807/\Below B w w':=by
 obtain⟨v0,v1,v2,hv⟩:=h;obtain⟨A0,c0,A1,c1,A2,c2,rfl,rfl,rfl⟩:=hv.cells;obtain⟨hB,hbk,ho0,ee,gg,cZ,hds⟩:=hv;have g2:w.cell? ⟨b,2,none⟩=some (.slice A2 cuts.length c2):=aj hbk 2;haveI:af b w:=af.of (ae hbk);obtain⟨ii,ki,kz0,kz1,kz2⟩:=info_parts gQ;have j4:=aa gg;clear hbk ho0 ee gg cZ hds hB;generalize fD:cuts.length=n2 at *;go_enter Tryz.func112,Tryz.ntmps112;go_wp2_with (at_builtin;refine wpList_append_own _ rfl _ _ 42 rfl B 3 ii (.int .i64 0) 1 8 Tryz.underlying42 ki kz0 kz1 kz2 rfl (by decide) (.slice A2 n2 c2) n2 _ rfl (j4.out.alloc _) _ 1 1 [.int .i64 last] rfl rfl ?_ (by simp;rfl) (by unfold maxLen;omega) (by omega) ?_ ?_)
 ·exact gS _ _ _
 ·simp;omega
 intro v' w4 hown' hgrow _;obtain⟨A',c',rfl,hq1,hq2⟩:=aI hown';have x6:iP w4 A' (cuts++[last]):=wG (n:=n2+1) (by rw[dF];exact hown') (by simp[fD]);have hbl:Below B w w4:=((Below.refl B w).alloc hBw _).grown hgrow (by simp;omega) (λg hg=>aD j4.out g hg);have HE:=aa (And.intro x6 hbl);clear x6 hbl hown' hgrow;go_wp2;go_ret;exact⟨_,_,rfl,HE.out.1,hq1,by unfold maxLen at hq2;omega,HE.out.2⟩
end
end Go.Proofs.YthoemdibbldndaaGreatDoor.Mk
