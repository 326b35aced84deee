/- An append to a row of the call's own: its result lies where the row lay, or in new memory. -/
import Derived.Test.YthoemdibbldndaaGreatDoorGA
import Derived.Laws.OwnMore
set_option linter.all false
set_option maxHeartbeats 0
set_option maxRecDepth 20000
open Go.Value renaming int->VD,string->VE,slice->VF,bool->VG,pointer->VH
open Go.IntKind renaming i64->VJ
open Go.Obj renaming cells->VK
open Go.Ending renaming returned->VL
open Go renaming World->VO
namespace Go.Proofs.YthoemdibbldndaaGreatDoor
open Go.RowKit
theorem aO(w:VO)(o:Obj)(n:Nat)(h:n=w.1.size):(w.alloc o).1[n]?=some o:=by subst h;exact heap_alloc_new w o
theorem dG(w:VO)(o:Obj)(n:Nat)(h:n<w.1.size):(w.alloc o).1[n]?=w.1[n]?:=by first|exact heap_alloc_old w o h|exact heap_alloc_old w o n h
def oB(w:VO)(v v':Value):Prop:=v'.ownBlock=v.ownBlock\/∀g,v'.ownBlock=some g->w.1.size<=g
theorem uP{P:Program}(w:World)(base:Nat)(t ty e:TypeId)(i:TypeInfo)(z:Value)(size bytes:Nat)(ht:P.underlying t=some (.slice e))(hi:P.info? e=some i)(hz:i.zero=some z)
  (hsize:i.size=size) (hby:i.bytes=bytes) (hzs:z.cells.size=size) (hsz:0<size)
  (v:Value) (n:Nat) (xs:List Value) (hown:w.ownsRow base e size v n xs)
  (a:Addr) (m c:Nat) (news:List Value) (hl:news.length=m*size) (hnews:∀j u,news[j]?=some u->w.cell? (a.add j)=some u) (h1:∀u∈news,u.oneCell'=true)
  (h63:n+m<=maxLen) (hbytes:(n+m)*bytes<=140737488355328) {v':Value} {w':VO}
  (hr:(Builtin.append_ #[t,t] ty #[v,VF (some a) m c]).run P w=.ok v' w'):oB w v v':=by
 have hsmall:n+m<=9223372036854775807:=by simp only[maxLen]at h63;omega
 rcases hown.2 with⟨rfl,rfl⟩|⟨g,cap,cur,rfl,hbg,hg,hnc,hcm,hcs,htake⟩
 ·have hx:xs=[]:=List.eq_nil_of_length_eq_zero (by simpa using hown.1);subst hx;obtain⟨v2,w2,hr2,fk,_⟩:=run_append_own (P:=P) w w.1.size t ty e i z size bytes ht hi hz hsize hby hzs hsz _ 0 [] (World.ownsRow_nil w w.1.size e size) a m c news hl hnews h1 h63 hbytes (Nat.le_refl _);rw[hr]at hr2;simp only[Result.ok.injEq]at hr2;obtain⟨rfl,rfl⟩:=hr2;exact .inr λg hg=>ax fk g hg
 by_cases hroom:n+m<=cap
 ·obtain⟨w2,hr2,_⟩:=run_append_fits (P:=P) w base t ty e i size ht hi hsize g n cap xs hown a m c news hl hnews h1 hroom;rw[hr]at hr2;simp only[Result.ok.injEq]at hr2;obtain⟨rfl,rfl⟩:=hr2;exact .inl rfl
 have holds:∀j u,xs[j]?=some u->w.cell? ((⟨g,0,none⟩:Addr).add j)=some u:=hown.cells (g:=g) rfl;subst hsize;subst hby;have hr2:=run_append_grow (P:=P) w t ty e i z ht hi hz ⟨g,0,none⟩ n cap xs hown.1 holds a m c news hl hnews (by omega) (by omega) (growslice_fits (by omega) hbytes);rw[hr]at hr2;simp only[Result.ok.injEq]at hr2;obtain⟨rfl,rfl⟩:=hr2;refine .inr λg' hg'=>?_
 simp only[Value.ownBlock,Option.some.injEq]at hg';omega
theorem qg{P:Program}{o:Oper}{a:Act}{w:VO}{K:Act->VO->Prop}{Q:Exit->Act->VO->Prop}(s x:Operand)(t:TypeId)
  (ho:o.op=.call { callee:=.builtin .append,args:=#[s,x],argTypes:=#[t,t] })
  (base:Nat) (e:TypeId) (i:TypeInfo) (z:Value) (size bytes:Nat) (ht:P.underlying t=some (.slice e)) (hi:P.info? e=some i) (hz:i.zero=some z)
  (hsize:i.size=size) (hby:i.bytes=bytes) (hzs:z.cells.size=size) (hsz:0<size)
  (v:Value) (n:Nat) (xs:List Value) (hs:a.eval s=v) (hown:w.ownsRow base e size v n xs)
  (ad:Addr) (m c:Nat) (news:List Value) (hx:a.eval x=VF (some ad) m c) (hl:news.length=m*size) (hnews:∀j u,news[j]?=some u->w.cell? (ad.add j)=some u) (h1:∀u∈news,u.oneCell'=true)
  (h63:n+m<=maxLen) (hbytes:(n+m)*bytes<=140737488355328) (hbase:base<=w.1.size)
  (h:∀v' w',w'.ownsRow base e size v' (n+m) (xs++news)->w.grownBy w' v.ownBlock->oB w v v'->K (a.put o.dst v') w'):o.wp P a w K Q:=by
 obtain⟨v',w',hr,h2,h3,h4⟩:=run_append_own (P:=P) w base t o.type e i z size bytes ht hi hz hsize hby hzs hsz v n xs hown ad m c news hl hnews h1 h63 hbytes hbase;have h5:=uP (P:=P) w base t o.type e i z size bytes ht hi hz hsize hby hzs hsz v n xs hown ad m c news hl hnews h1 h63 hbytes hr;unfold Oper.wp execOp;simp only[ho,resolve,invoke,builtin,Sem.run_bind,Sem.run_pure,Result.andThen_ok,List.map_toArray,List.map_cons,List.map_nil,hs,hx,hr];exact h v' w' h2 h3 h5
theorem sV{P:Program}{ops:Array Oper}{rest:List Oper}{o:Oper}{a:Act}{w:VO}{Q:Exit->Act->VO->Prop}(hgd:o.guard=none)(s x:Operand)(t:TypeId)
  (ho:o.op=.call { callee:=.builtin .append,args:=#[s,x],argTypes:=#[t,t] })
  (base:Nat) (e:TypeId) (i:TypeInfo) (z:Value) (size bytes:Nat) (ht:P.underlying t=some (.slice e)) (hi:P.info? e=some i) (hz:i.zero=some z)
  (hsize:i.size=size) (hby:i.bytes=bytes) (hzs:z.cells.size=size) (hsz:0<size)
  (v:Value) (n:Nat) (xs:List Value) (hs:a.eval s=v) (hown:w.ownsRow base e size v n xs)
  (ad:Addr) (m c:Nat) (news:List Value) (hx:a.eval x=VF (some ad) m c) (hl:news.length=m*size) (hnews:∀j u,news[j]?=some u->w.cell? (ad.add j)=some u) (h1:∀u∈news,u.oneCell'=true)
  (h63:n+m<=maxLen) (hbytes:(n+m)*bytes<=140737488355328) (hbase:base<=w.1.size)
  (h:∀v' w',w'.ownsRow base e size v' (n+m) (xs++news)->w.grownBy w' v.ownBlock->oB w v v'->wpList P ops Q rest (a.put o.dst v') w'):wpList P ops Q (o :: rest) a w:=
 wpList_plain hgd λ_ hK=>qg s x t ho base e i z size bytes ht hi hz hsize hby hzs hsz v n xs hs hown ad m c news hx hl hnews h1 h63 hbytes hbase λv' w' h2 h3 h4=>hK _ _ (h v' w' h2 h3 h4)
theorem iV{P:Program}{ops:Array Oper}{o:Oper}{a:Act}{w:VO}{K:Act->VO->Prop}{Q:Exit->Act->VO->Prop}{E:Prop}
  (hg:o.guard=none) (s x:Operand) (t:TypeId) (hop:o.op=Op.call { callee:=Callee.builtin Builtin.append,args:=#[s,x],argTypes:=#[t,t] })
  (base:Nat) (e:TypeId) (i:TypeInfo) (z:Value) (size bytes:Nat) (ht:P.underlying t=some (.slice e)) (hi:P.info? e=some i) (hz:i.zero=some z)
  (hsize:i.size=size) (hby:i.bytes=bytes) (hzs:z.cells.size=size) (hsz:0<size)
  (v:Value) (n:Nat) (xs:List Value) (hs:a.eval s=v) (hown:w.ownsRow base e size v n xs)
  (ad:Addr) (m c:Nat) (news:List Value) (hx:a.eval x=VF (some ad) m c) (hl:news.length=m*size) (hnews:∀j u,news[j]?=some u->w.cell? (ad.add j)=some u) (h1:∀u∈news,u.oneCell'=true)
  (h63:n+m<=maxLen) (hbytes:(n+m)*bytes<=140737488355328) (hbase:base<=w.1.size)
  (h:∀v' w',w'.ownsRow base e size v' (n+m) (xs++news)->w.grownBy w' v.ownBlock->oB w v v'->K (a.put o.dst v') w') :
  if Region.wanted o (yielded ops a.tmps)=true then Oper.wp P o a w K Q else E:=by
 have hw:Region.wanted o (yielded ops a.tmps)=true:=by simp[Region.wanted,hg]
 rw[if_pos hw];exact qg s x t hop base e i z size bytes ht hi hz hsize hby hzs hsz v n xs hs hown ad m c news hx hl hnews h1 h63 hbytes hbase h
theorem tR{w:VO}{B e size n cap:Nat}{A:Option Addr}{xs:List Value}(h:w.ownsRow B e size (VF A n cap) n xs)(m:Nat)(hm:m<=n):w.ownsRow B e size (VF A m cap) m (xs.take (m*size)):=by
 refine⟨by rw[List.length_take,h.1];exact Nat.min_eq_left (Nat.mul_le_mul_right _ hm),?_⟩;rcases h.2 with⟨e1,rfl⟩|⟨g,cap',cur,e1,h2,h3,h4,h5,h6,h7⟩
 ·simp only[Value.slice.injEq]at e1;obtain⟨rfl,_,rfl⟩:=e1;obtain rfl:m=0:=by omega
  exact .inl ⟨rfl,rfl⟩
 simp only[Value.slice.injEq]at e1;obtain⟨rfl,_,rfl⟩:=e1;refine .inr ⟨g,cap,cur,rfl,h2,h3,by omega,h5,h6,?_⟩;rw[<-h7,List.take_take,Nat.min_eq_left (Nat.mul_le_mul_right _ hm)]
end Go.Proofs.YthoemdibbldndaaGreatDoor
namespace Go.Proofs.YthoemdibbldndaaGreatDoor.Mk
open Go.RowKit
section
abbrev gZ:TypeId:=180
structure Mo where
 v:Value
 op:List St.It
 c:Nat
def Mo.l(m:Mo):List Value:=[m.v,VD VJ (m.c:Int)]
variable {mo:Mo}
def xo(a b:Value):Prop:=a.ownBlock=none\/a.ownBlock≠b.ownBlock
theorem ul{a b:Value}(h:xo a b):xo b a:=by
 unfold xo at h |-;cases hb:b.ownBlock with
 | none=>exact .inl rfl
 | some x=>
  refine .inr λe=>?_
  rcases h with h|h
  ·rw[h]at e;cases e
  exact h (by rw[hb,e])
def BV(mo:Mo)(w:VO)(B b:Nat)(v0 v1 v2:Value)(its:List St.It)(tx:List UInt8)(cuts:List Nat):Prop:=
 B<=b/\w.1[b]?=some (VK ⟨v0 :: v1 :: v2 :: mo.l⟩ gZ (0,0))/\w.ownsRow B 36 3 v0 its.length (av its)/\w.ownsRow B 5 1 v1 tx.length (Lib.byteCells tx)/\w.ownsRow B 3 1 v2 cuts.length (eJ cuts) /\
  w.ownsRow B 36 3 mo.v mo.op.length (av mo.op)/\xo v0 mo.v
def b7(mo:Mo)(w:VO)(B b:Nat)(its:List St.It)(tx:List UInt8)(cuts:List Nat):Prop:=∃v0 v1 v2,BV mo w B b v0 v1 v2 its tx cuts
theorem BV.ah{a c:VO}{B b:Nat}{v0 v1 v2:Value}{its:List St.It}{tx:List UInt8}{cuts:List Nat}(h:BV mo a B b v0 v1 v2 its tx cuts)(u:ac a c):BV mo c B b v0 v1 v2 its tx cuts:=by
 obtain⟨h0,h1,h2,h3,h4,h5,h6⟩:=h;exact⟨h0,(u.below.block b (ae h1)).trans h1,aA u h2,aA u h3,aA u h4,aA u h5,h6⟩
theorem b7.ah{a c:VO}{B b:Nat}{its:List St.It}{tx:List UInt8}{cuts:List Nat}(h:b7 mo a B b its tx cuts)(u:ac a c):b7 mo c B b its tx cuts:=by
 obtain⟨v0,v1,v2,h⟩:=h;exact⟨v0,v1,v2,h.ah u⟩
theorem BV.Eg{w w4:VO}{B b:Nat}{v0 v1 v2 v':Value}{its:List St.It}{tx ja:List UInt8}{cuts:List Nat}(h:BV mo w B b v0 v1 v2 its tx cuts)(hg:w.grownBy w4 v1.ownBlock)(ho:w4.ownsRow B 5 1 v' ja.length (Lib.byteCells ja)) :
  BV mo (w4.setCell ⟨b,1,none⟩ v') B b v0 v' v2 its ja cuts:=by
 obtain⟨h0,h1,h2,h3,h4,h5,h6⟩:=h;have hb4:w4.1[b]?=some (VK ⟨v0 :: v1 :: v2 :: mo.l⟩ gZ (0,0)):=(hg.block b (ae h1) (λe=>aQ h3 h1 (by decide) e.symm)).trans h1;exact⟨h0,heap_setCell_same w4 b 1 _ _ v' hb4,aF (h2.kept hg (cR h2 h3 (by decide))) (aQ h2 h1 (by decide)),aF ho (aQ ho hb4 (by decide)),aF (h4.kept hg (cR h4 h3 (by decide))) (aQ h4 h1 (by decide)),aF (h5.kept hg (cR h5 h3 (by decide))) (aQ h5 h1 (by decide)),h6⟩
theorem BV.vw{w w4:VO}{B b:Nat}{v0 v1 v2 v':Value}{its:List St.It}{tx:List UInt8}{cuts qo:List Nat}(h:BV mo w B b v0 v1 v2 its tx cuts)(hg:w.grownBy w4 v2.ownBlock)(ho:w4.ownsRow B 3 1 v' qo.length (eJ qo)) :
  BV mo (w4.setCell ⟨b,2,none⟩ v') B b v0 v1 v' its tx qo:=by
 obtain⟨h0,h1,h2,h3,h4,h5,h6⟩:=h;have hb4:w4.1[b]?=some (VK ⟨v0 :: v1 :: v2 :: mo.l⟩ gZ (0,0)):=(hg.block b (ae h1) (λe=>aQ h4 h1 (by decide) e.symm)).trans h1;exact⟨h0,heap_setCell_same w4 b 2 _ _ v' hb4,aF (h2.kept hg (cR h2 h4 (by decide))) (aQ h2 h1 (by decide)),aF (h3.kept hg (cR h3 h4 (by decide))) (aQ h3 h1 (by decide)),aF ho (aQ ho hb4 (by decide)),aF (h5.kept hg (cR h5 h4 (by decide))) (aQ h5 h1 (by decide)),h6⟩
theorem xM{w W:VO}{B e n:Nat}{v0 v' v3:Value}{xs:List Value}(h5:w.ownsRow B e 3 v3 n xs)(hw:w.1.size<=W.1.size)(h6:xo v0 v3)(hf:oB W v0 v'):xo v' v3:=by
 unfold xo at h6 |-;rcases hf with hf|hf
 ·rw[hf];exact h6
 cases hv:v'.ownBlock with
 | none=>exact .inl rfl
 | some g=>
  refine .inr λe=>?_
  have:=hf g hv
  have:=(h5.lt g e.symm).2
  omega
theorem BV.vu{w W w4:VO}{B b:Nat}{v0 v1 v2 v':Value}{its fy:List St.It}{tx:List UInt8}{cuts:List Nat}(h:BV mo w B b v0 v1 v2 its tx cuts)(hg:w.grownBy w4 v0.ownBlock)(hw:w.1.size<=W.1.size)(hf:oB W v0 v')(ho:w4.ownsRow B 36 3 v' fy.length (av fy)) :
  BV mo (w4.setCell ⟨b,0,none⟩ v') B b v' v1 v2 fy tx cuts:=by
 obtain⟨h0,h1,h2,h3,h4,h5,h6⟩:=h;have hb4:w4.1[b]?=some (VK ⟨v0 :: v1 :: v2 :: mo.l⟩ gZ (0,0)):=(hg.block b (ae h1) (λe=>aQ h2 h1 (by decide) e.symm)).trans h1;exact⟨h0,heap_setCell_same w4 b 0 _ _ v' hb4,aF ho (aQ ho hb4 (by decide)),aF (h3.kept hg (cR h3 h2 (by decide))) (aQ h3 h1 (by decide)),aF (h4.kept hg (cR h4 h2 (by decide))) (aQ h4 h1 (by decide)),aF (h5.kept hg (ul h6)) (aQ h5 h1 (by decide)),xM h5 hw h6 hf⟩
theorem BV.Ae{w:VO}{B b:Nat}{v0 v1 v2:Value}{its:List St.It}{tx:List UInt8}{cuts:List Nat}(h:BV mo w B b v0 v1 v2 its tx cuts):BV mo (w.setCell ⟨b,1,none⟩ (VF none 0 0)) B b v0 (VF none 0 0) v2 its [] cuts:=by
 obtain⟨h0,h1,h2,h3,h4,h5,h6⟩:=h;exact⟨h0,heap_setCell_same w b 1 _ _ _ h1,aF h2 (aQ h2 h1 (by decide)),World.ownsRow_nil _ _ _ _,aF h4 (aQ h4 h1 (by decide)),aF h5 (aQ h5 h1 (by decide)),h6⟩
theorem nY(w:VO)(B b:Nat)(its:List St.It)(tx:List UInt8)(cuts:List Nat)(t:Bool)(h:b7 mo w B b its tx cuts)(h1:its.length<=600)(h2:cuts.length<=2000) :
  Calls Tryz.prog 190 #[VH (some ⟨b,0,none⟩),VG t] w λe w'=>e=VL (VG (St.aT its.length tx.length cuts.length t))/\w=w':=by
 obtain⟨v0,v1,v2,_,hb,h3,h4,h5,_⟩:=h;obtain⟨A0,c0,rfl,_⟩:=aC h3;obtain⟨A1,c1,rfl,_⟩:=aC h4;obtain⟨A2,c2,rfl,_⟩:=aC h5;have g0:w.cell? ⟨b,0,none⟩=some (VF A0 its.length c0):=ai hb 0;have g1:w.cell? ⟨b,1,none⟩=some (VF A1 tx.length c1):=ai hb 1;have g2:w.cell? ⟨b,2,none⟩=some (VF A2 cuts.length c2):=ai hb 2;haveI:af b w:=af.of (ae hb);clear hb h3 h4 h5;unfold St.aT;generalize its.length=n0 at *;generalize tx.length=n1 at *;generalize cuts.length=n2 at *;rcases Nat.eq_zero_or_pos n1 with z|z
 ·subst z;cases t<;>
  ·by_cases q1:512<n0+1<;>by_cases q2:1024<n2+1<;>
   ·have q1':=q1;have q2':=q2;go_enter Tryz.func190,Tryz.ntmps190;go_wp2;go_ret;exact⟨ay (by simp<;>omega),rfl⟩
 have z':(0:Int)<(n1:Int):=by omega
 cases t
 ·by_cases q1:512<n0+1+1<;>by_cases q2:1024<n2+1<;>
  ·go_enter Tryz.func190,Tryz.ntmps190;go_wp2;go_ret;exact⟨ay (by simp<;>omega),rfl⟩
 by_cases q1:512<n0+1<;>by_cases q2:1024<n2+1<;>
 ·go_enter Tryz.func190,Tryz.ntmps190;go_wp2;go_ret;exact⟨ay (by simp<;>omega),rfl⟩
end
section
variable {mo:Mo}
theorem dn{B b i:Nat}{w w2 w4:VO}{row:Option Nat}{v:Value}(h:Below B w w2)(hBw:B<=w2.1.size)(hg:w2.grownBy w4 row)(hr:∀g,row=some g->B<=g)(hB:B<=b):Below B w (w4.setCell ⟨b,i,none⟩ v):=
 (h.grown hg hBw hr).setCell (p:=⟨b,i,none⟩) hB v
theorem nP(w:VO)(B b:Nat)(its:List St.It)(tx:List UInt8)(cuts:List Nat)(c:UInt8)(off:Nat)(h:b7 mo w B b its tx cuts)(h1:its.length<=600)(h2:cuts.length<=2000)(h3:tx.length<=2000)(hBw:B<=w.1.size) :
  Calls Tryz.prog 162 #[VH (some ⟨b,0,none⟩),VD .u8 c.toNat,VD VJ off] w λe w'=>
   e=VL (VG (!St.aT its.length tx.length cuts.length true))/\(St.aT its.length tx.length cuts.length true=false->b7 mo w' B b its (tx++[c]) (cuts++[off]))/\Below B w w':=by
 have hf:=nY w B b its tx cuts true h h1 h2;cases hb:St.aT its.length tx.length cuts.length true
 ·rw[hb]at hf;obtain⟨v0,v1,v2,hv⟩:=h;have HV:=aa hv;obtain⟨hB,hbk,ho0,ej,fk,bB,hds⟩:=hv;obtain⟨A1,c1,rfl,_⟩:=aC ej;obtain⟨A2,c2,rfl,_⟩:=aC fk;have g1:w.cell? ⟨b,1,none⟩=some (.slice A1 tx.length c1):=ai hbk 1;have g2:w.cell? ⟨b,2,none⟩=some (.slice A2 cuts.length c2):=ai hbk 2;have f1:w.frozen? ⟨b,1,none⟩=false:=bg hbk 1;have hlt:=ae hbk;haveI:af b w:=af.of hlt;obtain⟨i8,hi,hz0,hz1,hz2⟩:=info_parts oW;obtain⟨ii,ki,kz0,kz1,kz2⟩:=info_parts fJ;have HF:=aa hf;have my:=aa ej;have HB:=aa hB;generalize fZ:tx.length=n1 at *;generalize eV:cuts.length=n2 at *;clear hf hbk ho0 ej fk bB hds hB;go_enter Tryz.func162,Tryz.ntmps162;go_wp2_with fail;refine HF.out.mono ?_;rintro e w' ⟨rfl,rfl⟩;go_wp2_with (at_builtin;refine wpList_append_own _ rfl _ _ 22 rfl B 5 i8 (.int .u8 0) 1 1 Tryz.underlying22 hi hz0 hz1 hz2 rfl (by decide) (.slice A1 n1 c1) n1 _ rfl (my.out.alloc _) _ 1 1 [.int .u8 c.toNat] rfl rfl ?_ (by simp;rfl) (by unfold maxLen;omega) (by omega) ?_ ?_)
  ·exact fF _ _ _
  ·simp;omega
  intro v' w4 hown' hgrow _
  have ie:BV mo (w4.setCell ⟨b,1,none⟩ v') B b v0 v' (VF A2 n2 c2) its (tx++[c]) cuts:=by
   refine BV.Eg (HV.out.ah ((ac.refl w).alloc _)) hgrow ?_;rw[vh,List.length_append,List.length_singleton,fZ];exact hown'
  have kx:Below B w (w4.setCell ⟨b,1,none⟩ v'):=dn ((Below.refl B w).alloc hBw _) (by simp;omega) hgrow (λg hg=>ax my.out g hg) HB.out
  have hb4:w4.1[b]?=some (VK ⟨v0 :: VF A1 n1 c1 :: VF A2 n2 c2 :: mo.l⟩ gZ (0,0)):=by
   obtain⟨q0,q1,_,q3,_⟩:=HV.out.ah ((ac.refl w).alloc (VK #[VD .u8 c.toNat] 5));exact(hgrow.block b (ae q1) (λe=>aQ q3 q1 (by decide) e.symm)).trans q1
  obtain⟨Fv,c1',rfl,_⟩:=aC hown';have e1:w4.cell? ⟨b,1,none⟩=some (VF A1 n1 c1):=ai hb4 1;have Ny:w4.frozen? ⟨b,1,none⟩=false:=bg hb4 1;have e2:w4.cell? ⟨b,2,none⟩=some (VF A2 n2 c2):=ai hb4 2;have Nz:w4.frozen? ⟨b,2,none⟩=false:=bg hb4 2;haveI:af b w4:=af.of (ae hb4);have ku:=aa ie;have nF:=aa kx;have jv:=aa ie.2.2.2.2.1;have mN:B<=w4.1.size:=by have:=kx.size;simp at this;omega
  clear ie kx hb4 hown' hgrow g1 g2 f1;go_wp2_with (at_builtin;refine wpList_append_own _ rfl _ _ 42 rfl B 3 ii (.int .i64 0) 1 8 Tryz.underlying42 ki kz0 kz1 kz2 rfl (by decide) (.slice A2 n2 c2) n2 _ rfl (by have:=jv.out.alloc (.cells #[.int .i64 off] 3);rw[eV]at this;exact this) _ 1 1 [.int .i64 off] rfl rfl ?_ (by simp;rfl) (by unfold maxLen;omega) (by omega) ?_ ?_)
  ·exact sN _ _ _ _ (by simp)
  ·simp;omega
  intro v2' w6 hown2 hgrow2 _
  have n3:BV mo (w6.setCell ⟨b,2,none⟩ v2') B b v0 (VF Fv (n1+1) c1') v2' its (tx++[c]) (cuts++[off]):=by
   refine BV.vw (ku.out.ah ((ac.refl _).alloc _)) hgrow2 ?_;rw[dl,List.length_append,List.length_singleton,eV];exact hown2
  have n6:Below B w (w6.setCell ⟨b,2,none⟩ v2'):=dn (nF.out.alloc (by simp;omega) _) (by simp;omega) hgrow2 (λg hg=>ax jv.out g hg) HB.out
  have eB:w6.1[b]?=some (VK ⟨v0 :: VF Fv (n1+1) c1' :: VF A2 n2 c2 :: mo.l⟩ gZ (0,0)):=by
   obtain⟨q0,q1,_,_,q4,_⟩:=ku.out.ah ((ac.refl _).alloc (VK #[VD VJ off] 3));exact(hgrow2.block b (ae q1) (λe=>aQ q4 q1 (by decide) e.symm)).trans q1
  obtain⟨Mj,c2',rfl,_⟩:=aC hown2;have d2:w6.cell? ⟨b,2,none⟩=some (VF A2 n2 c2):=ai eB 2;have Nv:w6.frozen? ⟨b,2,none⟩=false:=bg eB 2;haveI:af b w6:=af.of (ae eB);have HE:=aa (And.intro n3 n6);clear n3 n6 eB hown2 hgrow2 e1 e2 Ny Nz ku nF;go_wp2;go_ret;exact⟨rfl,λ_=>⟨_,_,_,HE.out.1⟩,HE.out.2⟩
 rw[hb]at hf;have HF:=aa hf;clear hf h;go_enter Tryz.func162,Tryz.ntmps162;go_wp2_with fail;refine HF.out.mono ?_;rintro e w' ⟨rfl,rfl⟩;go_wp2;go_ret;exact⟨rfl,(λh=>nomatch h),Below.refl _ _⟩
theorem nR{w:VO}{B n c:Nat}{A:Option Addr}{l:List UInt8}(h:w.ownsRow B 5 1 (VF A n c) n (Lib.byteCells l))(h0:0<n) :
  (convert 22 9 (VF A n c)).run Tryz.prog w=.ok (VE ⟨l.toArray⟩) w:=by
 have hl:l.length=n:=by have:=h.1;rw[Lib.byteCells_length]at this;simpa using this
 obtain⟨g,rfl,_,_,hc⟩:=dY h h0
 rw[run_convert_bytes_arg w 22 5 Tryz.underlying22 Tryz.underlying5 g 0 n c (l.map λx=>(x.toNat:Int)) (by simpa using hl) (λi hi=>by
  rw[Nat.zero_add];refine hc i _ ?_;have hil:i<l.length:=by omega
  simp[Lib.byteCells,List.getD_eq_getElem?_getD,hil]) _ Tryz.underlying9]
 simp[strOfNums,Function.comp_def]
theorem BV.after{w w1:VO}{B b:Nat}{v0 v1 v2:Value}{its:List St.It}{tx:List UInt8}{cuts:List Nat}(h:BV mo w B b v0 v1 v2 its tx cuts){row:Option Nat}(hg:w.grownBy w1 row)(hr:row=v0.ownBlock\/row=v1.ownBlock\/row=v2.ownBlock) :
  w1.1[b]?=some (VK ⟨v0 :: v1 :: v2 :: mo.l⟩ gZ (0,0)):=by
 obtain⟨_,h1,h2,h3,h4,_⟩:=h;refine(hg.block b (ae h1) (λe=>?_)).trans h1;rcases hr with rfl|rfl|rfl
 ·exact aQ h2 h1 (by decide) e.symm
 ·exact aQ h3 h1 (by decide) e.symm
 exact aQ h4 h1 (by decide) e.symm
theorem BV.cells{w:VO}{B b:Nat}{v0 v1 v2:Value}{its:List St.It}{tx:List UInt8}{cuts:List Nat}(h:BV mo w B b v0 v1 v2 its tx cuts):∃A0 c0 A1 c1 A2 c2,v0=VF A0 its.length c0/\v1=VF A1 tx.length c1/\v2=VF A2 cuts.length c2:=by
 obtain⟨_,_,h2,h3,h4,_⟩:=h;obtain⟨A0,c0,e0,_⟩:=aC h2;obtain⟨A1,c1,e1,_⟩:=aC h3;obtain⟨A2,c2,e2,_⟩:=aC h4;exact⟨A0,c0,A1,c1,A2,c2,e0,e1,e2⟩
theorem mF(w W:VO)(B b:Nat)(its:List St.It)(tx:List UInt8)(cuts:List Nat)(h:b7 mo w B b its tx cuts)(hu:ac w W)(h1:its.length<=600)(h3:tx.length<=2000)(hBw:B<=w.1.size) :
  Calls Tryz.prog 121 #[VH (some ⟨b,0,none⟩)] W λe w'=>
   e=VL (.tuple #[])/\b7 mo w' B b (its++St.b8 tx) [] cuts/\Below B W w'/\∀k,w.1.size<=k->k<W.1.size->w'.1[k]?=W.1[k]?:=by
 obtain⟨v0,v1,v2,hv⟩:=h;have TF:=ae hv.2.1;have hol:∀g,v0.ownBlock=some g->g<w.1.size:=λg hg=>(hv.2.2.1.lt g hg).2
 replace hv:=hv.ah hu
 have dF:B<=W.1.size:=Nat.le_trans hBw hu.size;have HV:=aa hv;obtain⟨A0,c0,A1,c1,A2,c2,rfl,rfl,rfl⟩:=hv.cells;obtain⟨hB,hbk,ho0,ej,fk,bB,hds⟩:=hv;have g0:W.cell? ⟨b,0,none⟩=some (VF A0 its.length c0):=ai hbk 0;have g1:W.cell? ⟨b,1,none⟩=some (VF A1 tx.length c1):=ai hbk 1;haveI:af b W:=af.of (ae hbk);have pD:=aa ho0;have my:=aa ej;have HB:=aa hB;have FK:=aa hol;have TE:=hu.size;rcases Nat.eq_zero_or_pos tx.length with z|z
 ·have htx:tx=[]:=List.eq_nil_of_length_eq_zero z;subst htx;clear ho0 ej fk bB hds hbk hB hol;go_enter Tryz.func121,Tryz.ntmps121;go_wp2;go_end0;exact⟨rfl,⟨_,_,_,by simpa[St.b8]using HV.out⟩,Below.refl _ _,λ_ _ _=>rfl⟩
 have z':(0:Int)<(tx.length:Int):=by omega
 have hcv:=nR ej z;have R9:(convert 22 9 (.slice A1 tx.length c1)).run Tryz.prog W.drew=.ok (.string ⟨tx.toArray⟩) W.drew:=nR (w:=W.drew) ej z;obtain⟨i0,hi,hz0,hz1,hz2⟩:=info_parts dA;have vD:ac W W.drew:=uZ;have Ti:=aa (HV.out.ah vD);generalize hn0:its.length=n0 at *;generalize fZ:tx.length=n1 at *;clear ho0 ej fk bB hds hbk hB hol hcv;go_enter Tryz.func121,Tryz.ntmps121;go_wp2_with fail;go_region_law (refine iV rfl (.tmp 12) (.tmp 19) 37 rfl B 36 i0 (.agg #[.int .i64 0,.string ⟨#[]⟩,.int .i64 0]) 3 32 Tryz.underlying37 hi hz0 hz1 hz2 rfl (by decide) (.slice A0 n0 c0) n0 _ rfl (dZ (pD.out.alloc (.cells #[.int .i64 1,.string ⟨tx.toArray⟩,.int .i64 0] 36)) (ac.refl _).drew) ⟨W.1.size,0,none⟩ 1 1 [.int .i64 1,.string ⟨tx.toArray⟩,.int .i64 0] rfl rfl (ee W _ _ _ 36 _ rfl) (cG 1 0 _) (by unfold maxLen;omega) (by omega) (by simp;omega) ?_;intro v' w1 hown' hgrow sj;have hgr:=aK (ac.gb (uZ:ac W (W.alloc (.cells #[.int .i64 1,.string ⟨tx.toArray⟩,.int .i64 0] 36)).drew) (Value.slice A0 n0 c0).ownBlock) hgrow (λg e=>Or.inl e);have hb4:=HV.out.after hgr (Or.inl rfl);have e0:w1.cell? ⟨b,0,none⟩=some (.slice A0 n0 c0):=ai hb4 0;have e1:w1.cell? ⟨b,1,none⟩=some (.slice A1 n1 c1):=ai hb4 1;have f0:w1.frozen? ⟨b,0,none⟩=false:=bg hb4 0;have f1:w1.frozen? ⟨b,1,none⟩=false:=bg hb4 1;haveI:af b w1:=af.of (ae hb4);obtain⟨A',c',rfl,_⟩:=aC hown')
 all_goals
  have ie:BV mo (w1.setCell ⟨b,0,none⟩ (VF A' (n0+1) c')) B b (VF A' (n0+1) c') (VF A1 n1 c1) (VF A2 cuts.length c2) (its++[(1,tx,0)]) tx cuts:=by
   refine BV.vu HV.out hgr (by simp) sj ?_;rw[bw,List.length_append,List.length_singleton,hn0];exact hown'
  have hbl:Below B W (w1.setCell ⟨b,0,none⟩ (VF A' (n0+1) c')):=dn (Below.refl B W) dF hgr (λg hg=>ax pD.out g hg) HB.out;have hfr:∀k,w.1.size<=k->k<W.1.size->w1.1[k]?=W.1[k]?:=λk hk hk2=>hgr.block k hk2 (λe=>by have:=FK.out k e.symm;omega)
  have HE:=aa (And.intro ie (And.intro hbl hfr));clear ie hbl hfr hgr hgrow hown' hb4 sj;go_wp2;go_end0;have ht:St.b8 tx=[(1,tx,0)]:=by unfold St.b8;rw[if_neg (by intro e;rw[e]at fZ;simp at fZ;omega)]
  have eO:b7 mo ((w1.setCell ⟨b,0,none⟩ (VF A' (n0+1) c')).setCell ⟨b,1,none⟩ (VF none 0 0)) B b (its++St.b8 tx) [] cuts:=by
   rw[ht];exact⟨_,_,_,HE.out.1.Ae⟩
  refine⟨rfl,eO,HE.out.2.1.setCell (p:=⟨b,1,none⟩) HB.out _,λk hk hk2=>?_⟩;rw[heap_setCell_other _ _ _ _ (by show k≠b;omega),heap_setCell_other _ _ _ _ (by show k≠b;omega)];exact HE.out.2.2 k hk hk2
end
section
variable {mo:Mo}
theorem uT(t:List UInt8):(St.b8 t).length<=1:=by rw[St.tD];split<;>omega
theorem kB(w:VO)(B b:Nat)(its:List St.It)(tx:List UInt8)(cuts:List Nat)(k i:Int)(s:ByteArray)(off:Nat)(h:b7 mo w B b its tx cuts)(h1:its.length<=600)(h2:cuts.length<=2000)(h3:tx.length<=2000)(hBw:B<=w.1.size) :
  Calls Tryz.prog 164 #[VH (some ⟨b,0,none⟩),.agg #[VD VJ k,VE s,VD VJ i],VD VJ off] w λe w'=>
   e=VL (VG (!St.aT its.length tx.length cuts.length false))/\(St.aT its.length tx.length cuts.length false=false->b7 mo w' B b (its++St.b8 tx++[(k,s.1.1,i)]) [] (cuts++[off]))/\Below B w w':=by
 have huA:ac w (w.alloc (VK #[VD VJ k,VE s,VD VJ i] 36)):=uZ;have hf:=nY _ B b its tx cuts false (h.ah huA) h1 h2;have hfl:=mF w _ B b its tx cuts h huA h1 h3 hBw;have mQ:=aa hfl;cases hb:St.aT its.length tx.length cuts.length false
 ·rw[hb]at hf;have HF:=aa hf;clear hf hfl h;go_enter Tryz.func164,Tryz.ntmps164;go_wp2_with fail;refine HF.out.mono ?_;rintro e w' ⟨rfl,rfl⟩;go_wp2_with fail;refine mQ.out.mono ?_;rintro e w2 ⟨rfl,⟨v0,v1,v2,hv⟩,hbl,hfr⟩;have n7:w2.1[w.1.size]?=some (VK #[VD VJ k,VE s,VD VJ i] 36 (0,0)):=(hfr _ (Nat.le_refl _) (by simp)).trans (heap_alloc_new w _);have x0:w2.cell? ⟨w.1.size,0,none⟩=some (VD VJ k):=ai n7 0;have x1:w2.cell? ⟨w.1.size,1,none⟩=some (VE s):=ai n7 1;have x2:w2.cell? ⟨w.1.size,2,none⟩=some (VD VJ i):=ai n7 2;haveI:af w.1.size w2:=af.of (ae n7);have HV:=aa hv;obtain⟨A0,c0,A1,c1,A2,c2,rfl,rfl,rfl⟩:=hv.cells;obtain⟨hB,hbk,ho0,ej,fk,bB,hds⟩:=hv;have g0:w2.cell? ⟨b,0,none⟩=some (VF A0 (its++St.b8 tx).length c0):=ai hbk 0;have kc:B<=w2.1.size:=Nat.le_trans (Nat.le_trans hBw huA.size) hbl.size;have cX:=aa ((Below.refl B w).alloc hBw (VK #[VD VJ k,VE s,VD VJ i] 36) |>.trans hbl);have Sj:(its++St.b8 tx).length<=601:=by have:=uT tx;simp;omega
  haveI:af b w2:=af.of (ae hbk);have pD:=aa ho0;have HB:=aa hB;generalize hits:its++St.b8 tx=qG at *;obtain⟨i0,hi,hz0,hz1,hz2⟩:=info_parts dA;obtain⟨ii,ki,kz0,kz1,kz2⟩:=info_parts fJ;generalize hn0:qG.length=n0 at *;generalize eV:cuts.length=n2 at *;clear hbk ho0 ej fk bB hds hB hbl hfr n7 HF mQ;go_wp2_with fail;go_region_law (refine iV rfl (.tmp 15) (.tmp 17) 37 rfl B 36 i0 (.agg #[.int .i64 0,.string ⟨#[]⟩,.int .i64 0]) 3 32 Tryz.underlying37 hi hz0 hz1 hz2 rfl (by decide) (.slice A0 n0 c0) n0 _ rfl (dZ (pD.out.alloc (.cells #[.int .i64 k,.string s,.int .i64 i] 36)) (ac.refl _).drew) ⟨w2.1.size,0,none⟩ 1 1 [.int .i64 k,.string s,.int .i64 i] rfl rfl (ee w2 _ _ _ 36 _ rfl) (cG k i _) (by unfold maxLen;omega) (by omega) (by simp;omega) ?_;intro v' w1 hown' hgrow sj;have hgr:=aK (ac.gb (uZ:ac w2 (w2.alloc (.cells #[.int .i64 k,.string s,.int .i64 i] 36)).drew) (Value.slice A0 n0 c0).ownBlock) hgrow (λg e=>Or.inl e);have hb4:=HV.out.after hgr (Or.inl rfl);have e0:w1.cell? ⟨b,0,none⟩=some (.slice A0 n0 c0):=ai hb4 0;have f0:w1.frozen? ⟨b,0,none⟩=false:=bg hb4 0;haveI:af b w1:=af.of (ae hb4);obtain⟨A',c',rfl,_⟩:=aC hown')
  all_goals
   have ie:BV mo (w1.setCell ⟨b,0,none⟩ (VF A' (n0+1) c')) B b (VF A' (n0+1) c') (VF A1 ([]:List UInt8).length c1) (VF A2 n2 c2) (qG++[(k,s.1.1,i)]) [] cuts:=by
    refine BV.vu HV.out hgr (by simp) sj ?_;rw[bw,List.length_append,List.length_singleton,hn0];simp only[aX];exact hown'
   have kx:Below B w (w1.setCell ⟨b,0,none⟩ (VF A' (n0+1) c')):=dn cX.out kc hgr (λg hg=>ax pD.out g hg) HB.out;have e2:w1.cell? ⟨b,2,none⟩=some (VF A2 n2 c2):=ai hb4 2;have f2:w1.frozen? ⟨b,2,none⟩=false:=bg hb4 2;have ku:=aa ie;have nF:=aa kx;have jv:=aa ie.2.2.2.2.1;have mN:B<=w1.1.size:=by have:=kx.size;simp at this;omega
   clear ie kx hb4 hown' hgrow hgr sj g0 x0 x1 x2 HV pD cX;go_wp2_with (at_builtin;refine wpList_append_own _ rfl _ _ 42 rfl B 3 ii (.int .i64 0) 1 8 Tryz.underlying42 ki kz0 kz1 kz2 rfl (by decide) (.slice A2 n2 c2) n2 _ rfl (by have:=jv.out.alloc (.cells #[.int .i64 off] 3);rw[eV]at this;exact this) _ 1 1 [.int .i64 off] rfl rfl ?_ (by simp;rfl) (by unfold maxLen;omega) (by omega) ?_ ?_)
   ·exact sN _ _ _ _ (by simp)
   ·simp;omega
   intro v2' w6 hown2 hgrow2 _
   have n3:BV mo (w6.setCell ⟨b,2,none⟩ v2') B b (VF A' (n0+1) c') (VF A1 ([]:List UInt8).length c1) v2' (qG++[(k,s.1.1,i)]) [] (cuts++[off]):=by
    refine BV.vw (ku.out.ah ((ac.refl _).alloc _)) hgrow2 ?_;rw[dl,List.length_append,List.length_singleton,eV];exact hown2
   have n6:Below B w (w6.setCell ⟨b,2,none⟩ v2'):=dn (nF.out.alloc (by simp;omega) _) (by simp;omega) hgrow2 (λg hg=>ax jv.out g hg) HB.out;have eB:=(ku.out.ah ((ac.refl _).alloc (VK #[VD VJ off] 3))).after hgrow2 (Or.inr (Or.inr rfl));obtain⟨Mj,c2',rfl,_⟩:=aC hown2;have d2:w6.cell? ⟨b,2,none⟩=some (VF A2 n2 c2):=ai eB 2;have Nv:w6.frozen? ⟨b,2,none⟩=false:=bg eB 2;haveI:af b w6:=af.of (ae eB);have HE:=aa (And.intro (show b7 mo _ B b (qG++[(k,s.1.1,i)]) [] (cuts++[off])from⟨_,_,_,n3⟩) n6);clear n3 n6 eB hown2 hgrow2 e0 f0 e2 f2 ku nF;go_wp2;go_ret;subst hits;exact⟨rfl,λ_=>HE.out.1,HE.out.2⟩
 rw[hb]at hf;have HF:=aa hf;clear hf hfl mQ;go_enter Tryz.func164,Tryz.ntmps164;go_wp2_with fail;refine HF.out.mono ?_;rintro e w' ⟨rfl,rfl⟩;go_wp2;go_ret;exact⟨rfl,(λh=>nomatch h),(Below.refl B w).alloc hBw _⟩
theorem oX(w:VO)(B b:Nat)(its:List St.It)(tx:List UInt8)(cuts:List Nat)(h:b7 mo w B b its tx cuts)(h1:its.length<=600)(h3:tx.length<=2000)(hBw:B<=w.1.size) :
  Calls Tryz.prog 82 #[VH (some ⟨b,0,none⟩)] w λe w'=>∃A c,e=VL (VF A (its++St.b8 tx).length c)/\aE w' A (its++St.b8 tx)/\(its++St.b8 tx).length<=c/\c<=9223372036854775807/\Below B w w':=by
 have mQ:=aa (mF w w B b its tx cuts h (ac.refl w) h1 h3 hBw);clear h;go_enter Tryz.func82,Tryz.ntmps82;go_wp2_with fail;refine mQ.out.mono ?_;rintro e w2 ⟨rfl,⟨v0,v1,v2,hv⟩,hbl,_⟩;obtain⟨A0,c0,A1,c1,A2,c2,rfl,rfl,rfl⟩:=hv.cells;obtain⟨hB,hbk,ho0,ej,fk,bB,hds⟩:=hv;have g0:w2.cell? ⟨b,0,none⟩=some (VF A0 (its++St.b8 tx).length c0):=ai hbk 0;haveI:af b w2:=af.of (ae hbk);obtain⟨_,_,hq,hq1,hq2⟩:=aC ho0;simp only[Value.slice.injEq]at hq;obtain⟨rfl,_,rfl⟩:=hq;have HE:=aa (And.intro (aM ho0 rfl) hbl);clear hbk ho0 ej fk bB hds hB hbl mQ;generalize N9:its++St.b8 tx=f at *;go_wp2;go_ret;subst N9;exact⟨_,_,rfl,HE.out.1,hq1,by unfold maxLen at hq2;omega,HE.out.2⟩
theorem oL(w:VO)(B b:Nat)(its:List St.It)(tx:List UInt8)(cuts:List Nat)(last:Nat)(h:b7 mo w B b its tx cuts)(h2:cuts.length<=2000)(hBw:B<=w.1.size) :
  Calls Tryz.prog 112 #[VH (some ⟨b,0,none⟩),VD VJ last] w λe w'=>∃A c,e=VL (VF A (cuts.length+1) c)/\iz w' A (cuts++[last])/\cuts.length+1<=c/\c<=9223372036854775807/\Below B w w':=by
 obtain⟨v0,v1,v2,hv⟩:=h;obtain⟨A0,c0,A1,c1,A2,c2,rfl,rfl,rfl⟩:=hv.cells;obtain⟨hB,hbk,ho0,ej,fk,bB,hds⟩:=hv;have g2:w.cell? ⟨b,2,none⟩=some (.slice A2 cuts.length c2):=ai hbk 2;haveI:af b w:=af.of (ae hbk);obtain⟨ii,ki,kz0,kz1,kz2⟩:=info_parts fJ;have jv:=aa fk;clear hbk ho0 ej fk bB hds hB;generalize eV:cuts.length=n2 at *;go_enter Tryz.func112,Tryz.ntmps112;go_wp2_with (at_builtin;refine wpList_append_own _ rfl _ _ 42 rfl B 3 ii (.int .i64 0) 1 8 Tryz.underlying42 ki kz0 kz1 kz2 rfl (by decide) (.slice A2 n2 c2) n2 _ rfl (jv.out.alloc _) _ 1 1 [.int .i64 last] rfl rfl ?_ (by simp;rfl) (by unfold maxLen;omega) (by omega) ?_ ?_)
 ·exact fF _ _ _
 ·simp;omega
 intro v' w4 hown' hgrow _;obtain⟨A',c',rfl,hq1,hq2⟩:=aC hown';have vH:iz w4 A' (cuts++[last]):=qL (n:=n2+1) (by rw[dl];exact hown') (by simp[eV]);have hbl:Below B w w4:=((Below.refl B w).alloc hBw _).grown hgrow (by simp;omega) (λg hg=>ax jv.out g hg);have HE:=aa (And.intro vH hbl);clear vH hbl hown' hgrow;go_wp2;go_ret;exact⟨_,_,rfl,HE.out.1,hq1,by unfold maxLen at hq2;omega,HE.out.2⟩
end
end Go.Proofs.YthoemdibbldndaaGreatDoor.Mk
