/- The contracts of the codecs' builder: full, Byte, flush, Item, Items, Cuts. -/
import Derived.Test.YthoemdibbldndaaGreatDoorGA
set_option linter.all false
set_option maxHeartbeats 0
set_option maxRecDepth 20000
open Go.Value renaming int->UM,string->UN,slice->UO,bool->UP,pointer->UQ
open Go.IntKind renaming i64->US
open Go.Obj renaming cells->UT
open Go.Ending renaming returned->UU
open Option renaming none->UW,some->UX
open Go renaming World->UY
namespace Go.Proofs.YthoemdibbldndaaGreatDoor
open Go.RowKit
section
class ub (rd:TypeId):Prop where
 h:∀e∈[36,5,3],rd≠e
theorem lV{rd e:TypeId}[r:ub rd](h:e∈[36,5,3]):rd≠e:=r.h e h
variable {mo:List Value} {rd:TypeId}
def BV(rd:TypeId)(mo:List Value)(w:UY)(B b:Nat)(v0 v1 v2:Value)(ah:List St.It)(tx:List UInt8)(cuts:List Nat):Prop:=
 B<=b/\w.1[b]?=UX (UT ⟨v0 :: v1 :: v2 :: mo⟩ rd (0,0))/\w.ownsRow B 36 3 v0 ah.length (av ah)/\w.ownsRow B 5 1 v1 tx.length (Lib.byteCells tx)/\w.ownsRow B 3 1 v2 cuts.length (ew cuts)
def bY(rd:TypeId)(mo:List Value)(w:UY)(B b:Nat)(ah:List St.It)(tx:List UInt8)(cuts:List Nat):Prop:=∃v0 v1 v2,BV rd mo w B b v0 v1 v2 ah tx cuts
theorem BV.ai{a c:UY}{B b:Nat}{v0 v1 v2:Value}{ah:List St.It}{tx:List UInt8}{cuts:List Nat}(h:BV rd mo a B b v0 v1 v2 ah tx cuts)(u:ac a c):BV rd mo c B b v0 v1 v2 ah tx cuts:=by
 obtain⟨h0,h1,h2,h3,h4⟩:=h;exact⟨h0,(u.below.block b (ae h1)).trans h1,aE u h2,aE u h3,aE u h4⟩
theorem bY.ai{a c:UY}{B b:Nat}{ah:List St.It}{tx:List UInt8}{cuts:List Nat}(h:bY rd mo a B b ah tx cuts)(u:ac a c):bY rd mo c B b ah tx cuts:=by
 obtain⟨v0,v1,v2,h⟩:=h;exact⟨v0,v1,v2,h.ai u⟩
theorem od(w:UY)(B b:Nat)(ah:List St.It)(tx:List UInt8)(cuts:List Nat)(t:Bool)(h:bY rd mo w B b ah tx cuts)(h1:ah.length<=600)(h2:cuts.length<=2000) :
  Calls Tryz.prog 190 #[UQ (UX ⟨b,0,UW⟩),UP t] w λe w'=>e=UU (UP (St.aV ah.length tx.length cuts.length t))/\w=w':=by
 obtain⟨v0,v1,v2,_,hb,h3,h4,h5⟩:=h;obtain⟨A0,c0,rfl,_⟩:=aL h3;obtain⟨A1,c1,rfl,_⟩:=aL h4;obtain⟨A2,c2,rfl,_⟩:=aL h5;have g0:w.cell? ⟨b,0,UW⟩=UX (UO A0 ah.length c0):=ak hb 0;have g1:w.cell? ⟨b,1,UW⟩=UX (UO A1 tx.length c1):=ak hb 1;have g2:w.cell? ⟨b,2,UW⟩=UX (UO A2 cuts.length c2):=ak hb 2;haveI:af b w:=af.of (ae hb);clear hb h3 h4 h5;unfold St.aV;generalize ah.length=n0 at *;generalize tx.length=n1 at *;generalize cuts.length=n2 at *;rcases Nat.eq_zero_or_pos n1 with z|z
 ·subst z;cases t<;>
  ·by_cases q1:512<n0+1<;>by_cases q2:1024<n2+1<;>
   ·have q1':=q1;have q2':=q2;go_enter Tryz.func190,Tryz.ntmps190;go_wp2;go_ret;exact⟨aD (by simp<;>omega),rfl⟩
 have z':(0:Int)<(n1:Int):=by omega
 cases t
 ·by_cases q1:512<n0+1+1<;>by_cases q2:1024<n2+1<;>
  ·go_enter Tryz.func190,Tryz.ntmps190;go_wp2;go_ret;exact⟨aD (by simp<;>omega),rfl⟩
 by_cases q1:512<n0+1<;>by_cases q2:1024<n2+1<;>
 ·go_enter Tryz.func190,Tryz.ntmps190;go_wp2;go_ret;exact⟨aD (by simp<;>omega),rfl⟩
theorem BV.cells{w:UY}{B b:Nat}{v0 v1 v2:Value}{ah:List St.It}{tx:List UInt8}{cuts:List Nat}(h:BV rd mo w B b v0 v1 v2 ah tx cuts):∃A0 c0 A1 c1 A2 c2,v0=UO A0 ah.length c0/\v1=UO A1 tx.length c1/\v2=UO A2 cuts.length c2:=by
 obtain⟨_,_,h2,h3,h4⟩:=h;obtain⟨A0,c0,e0,_⟩:=aL h2;obtain⟨A1,c1,e1,_⟩:=aL h3;obtain⟨A2,c2,e2,_⟩:=aL h4;exact⟨A0,c0,A1,c1,A2,c2,e0,e1,e2⟩
variable [ub rd]
theorem BV.ET{w w4:UY}{B b:Nat}{v0 v1 v2 v':Value}{ah:List St.It}{tx jm:List UInt8}{cuts:List Nat}(h:BV rd mo w B b v0 v1 v2 ah tx cuts)(hg:w.grownBy w4 v1.ownBlock)(ho:w4.ownsRow B 5 1 v' jm.length (Lib.byteCells jm)) :
  BV rd mo (w4.setCell ⟨b,1,UW⟩ v') B b v0 v' v2 ah jm cuts:=by
 obtain⟨h0,h1,h2,h3,h4⟩:=h;have hb4:w4.1[b]?=UX (UT ⟨v0 :: v1 :: v2 :: mo⟩ rd (0,0)):=(hg.block b (ae h1) (λe=>aU h3 h1 (lV (by decide)) e.symm)).trans h1;exact⟨h0,heap_setCell_same w4 b 1 _ _ v' hb4,aA (h2.kept hg (cX h2 h3 (by decide))) (aU h2 h1 (lV (by decide))),aA ho (aU ho hb4 (lV (by decide))),aA (h4.kept hg (cX h4 h3 (by decide))) (aU h4 h1 (lV (by decide)))⟩
theorem BV.vw{w w4:UY}{B b:Nat}{v0 v1 v2 v':Value}{ah:List St.It}{tx:List UInt8}{cuts qI:List Nat}(h:BV rd mo w B b v0 v1 v2 ah tx cuts)(hg:w.grownBy w4 v2.ownBlock)(ho:w4.ownsRow B 3 1 v' qI.length (ew qI)) :
  BV rd mo (w4.setCell ⟨b,2,UW⟩ v') B b v0 v1 v' ah tx qI:=by
 obtain⟨h0,h1,h2,h3,h4⟩:=h;have hb4:w4.1[b]?=UX (UT ⟨v0 :: v1 :: v2 :: mo⟩ rd (0,0)):=(hg.block b (ae h1) (λe=>aU h4 h1 (lV (by decide)) e.symm)).trans h1;exact⟨h0,heap_setCell_same w4 b 2 _ _ v' hb4,aA (h2.kept hg (cX h2 h4 (by decide))) (aU h2 h1 (lV (by decide))),aA (h3.kept hg (cX h3 h4 (by decide))) (aU h3 h1 (lV (by decide))),aA ho (aU ho hb4 (lV (by decide)))⟩
theorem BV.vu{w w4:UY}{B b:Nat}{v0 v1 v2 v':Value}{ah ft:List St.It}{tx:List UInt8}{cuts:List Nat}(h:BV rd mo w B b v0 v1 v2 ah tx cuts)(hg:w.grownBy w4 v0.ownBlock)(ho:w4.ownsRow B 36 3 v' ft.length (av ft)) :
  BV rd mo (w4.setCell ⟨b,0,UW⟩ v') B b v' v1 v2 ft tx cuts:=by
 obtain⟨h0,h1,h2,h3,h4⟩:=h;have hb4:w4.1[b]?=UX (UT ⟨v0 :: v1 :: v2 :: mo⟩ rd (0,0)):=(hg.block b (ae h1) (λe=>aU h2 h1 (lV (by decide)) e.symm)).trans h1;exact⟨h0,heap_setCell_same w4 b 0 _ _ v' hb4,aA ho (aU ho hb4 (lV (by decide))),aA (h3.kept hg (cX h3 h2 (by decide))) (aU h3 h1 (lV (by decide))),aA (h4.kept hg (cX h4 h2 (by decide))) (aU h4 h1 (lV (by decide)))⟩
theorem BV.Au{w:UY}{B b:Nat}{v0 v1 v2:Value}{ah:List St.It}{tx:List UInt8}{cuts:List Nat}(h:BV rd mo w B b v0 v1 v2 ah tx cuts):BV rd mo (w.setCell ⟨b,1,UW⟩ (UO UW 0 0)) B b v0 (UO UW 0 0) v2 ah [] cuts:=by
 obtain⟨h0,h1,h2,h3,h4⟩:=h;exact⟨h0,heap_setCell_same w b 1 _ _ _ h1,aA h2 (aU h2 h1 (lV (by decide))),World.ownsRow_nil _ _ _ _,aA h4 (aU h4 h1 (lV (by decide)))⟩
end
section
variable {mo:List Value} {rd:TypeId} [ub rd]
theorem dn{B b i:Nat}{w w2 w4:UY}{row:Option Nat}{v:Value}(h:Below B w w2)(hBw:B<=w2.1.size)(hg:w2.grownBy w4 row)(hr:∀g,row=UX g->B<=g)(hB:B<=b):Below B w (w4.setCell ⟨b,i,UW⟩ v):=
 (h.grown hg hBw hr).setCell (p:=⟨b,i,UW⟩) hB v
theorem n5(w:UY)(B b:Nat)(ah:List St.It)(tx:List UInt8)(cuts:List Nat)(c:UInt8)(off:Nat)(h:bY rd mo w B b ah tx cuts)(h1:ah.length<=600)(h2:cuts.length<=2000)(h3:tx.length<=2000)(hBw:B<=w.1.size) :
  Calls Tryz.prog 162 #[UQ (UX ⟨b,0,UW⟩),UM .u8 c.toNat,UM US off] w λe w'=>
   e=UU (UP (!St.aV ah.length tx.length cuts.length true))/\(St.aV ah.length tx.length cuts.length true=false->bY rd mo w' B b ah (tx++[c]) (cuts++[off]))/\Below B w w':=by
 have hf:=od w B b ah tx cuts true h h1 h2;cases hb:St.aV ah.length tx.length cuts.length true
 ·rw[hb]at hf;obtain⟨v0,v1,v2,hv⟩:=h;have HV:=aa hv;obtain⟨hB,hbk,ho0,dX,fN⟩:=hv;obtain⟨A1,c1,rfl,_⟩:=aL dX;obtain⟨A2,c2,rfl,_⟩:=aL fN;have g1:w.cell? ⟨b,1,none⟩=some (.slice A1 tx.length c1):=ak hbk 1;have g2:w.cell? ⟨b,2,none⟩=some (.slice A2 cuts.length c2):=ak hbk 2;have f1:w.frozen? ⟨b,1,none⟩=false:=bk hbk 1;have hlt:=ae hbk;haveI:af b w:=af.of hlt;obtain⟨i8,hi,hz0,hz1,hz2⟩:=info_parts pf;obtain⟨ii,ki,kz0,kz1,kz2⟩:=info_parts gv;have HF:=aa hf;have rX:=aa dX;have HB:=aa hB;generalize iS:tx.length=n1 at *;generalize fk:cuts.length=n2 at *;clear hf hbk ho0 dX fN hB;go_enter Tryz.func162,Tryz.ntmps162;go_wp2_with fail;refine HF.out.mono ?_;rintro e w' ⟨rfl,rfl⟩;go_wp2_with (at_builtin;refine wpList_append_own _ rfl _ _ 22 rfl B 5 i8 (.int .u8 0) 1 1 Tryz.underlying22 hi hz0 hz1 hz2 rfl (by decide) (.slice A1 n1 c1) n1 _ rfl (rX.out.alloc _) _ 1 1 [.int .u8 c.toNat] rfl rfl ?_ (by simp;rfl) (by unfold maxLen;omega) (by omega) ?_ ?_)
  ·exact gT _ _ _
  ·simp;omega
  intro v' w4 hown' hgrow _
  have hJ:BV rd mo (w4.setCell ⟨b,1,UW⟩ v') B b v0 v' (UO A2 n2 c2) ah (tx++[c]) cuts:=by
   refine BV.ET (HV.out.ai ((ac.refl w).alloc _)) hgrow ?_;rw[vg,List.length_append,List.length_singleton,iS];exact hown'
  have kL:Below B w (w4.setCell ⟨b,1,UW⟩ v'):=dn ((Below.refl B w).alloc hBw _) (by simp;omega) hgrow (λg hg=>aG rX.out g hg) HB.out
  have hb4:w4.1[b]?=UX (UT ⟨v0 :: UO A1 n1 c1 :: UO A2 n2 c2 :: mo⟩ rd (0,0)):=by
   obtain⟨q0,q1,_,q3,_⟩:=HV.out.ai ((ac.refl w).alloc (UT #[UM .u8 c.toNat] 5));exact(hgrow.block b (ae q1) (λe=>aU q3 q1 (lV (by decide)) e.symm)).trans q1
  obtain⟨F7,c1',rfl,_⟩:=aL hown';have e1:w4.cell? ⟨b,1,UW⟩=UX (UO A1 n1 c1):=ak hb4 1;have NI:w4.frozen? ⟨b,1,UW⟩=false:=bk hb4 1;have e2:w4.cell? ⟨b,2,UW⟩=UX (UO A2 n2 c2):=ak hb4 2;have NJ:w4.frozen? ⟨b,2,UW⟩=false:=bk hb4 2;haveI:af b w4:=af.of (ae hb4);have kH:=aa hJ;have nX:=aa kL;have lr:=aa hJ.2.2.2.2;have nh:B<=w4.1.size:=by have:=kL.size;simp at this;omega
  clear hJ kL hb4 hown' hgrow g1 g2 f1;go_wp2_with (at_builtin;refine wpList_append_own _ rfl _ _ 42 rfl B 3 ii (.int .i64 0) 1 8 Tryz.underlying42 ki kz0 kz1 kz2 rfl (by decide) (.slice A2 n2 c2) n2 _ rfl (by have:=lr.out.alloc (.cells #[.int .i64 off] 3);rw[fk]at this;exact this) _ 1 1 [.int .i64 off] rfl rfl ?_ (by simp;rfl) (by unfold maxLen;omega) (by omega) ?_ ?_)
  ·exact sU _ _ _ _ (by simp)
  ·simp;omega
  intro v2' w6 hown2 hgrow2 _
  have oe:BV rd mo (w6.setCell ⟨b,2,UW⟩ v2') B b v0 (UO F7 (n1+1) c1') v2' ah (tx++[c]) (cuts++[off]):=by
   refine BV.vw (kH.out.ai ((ac.refl _).alloc _)) hgrow2 ?_;rw[dj,List.length_append,List.length_singleton,fk];exact hown2
  have oh:Below B w (w6.setCell ⟨b,2,UW⟩ v2'):=dn (nX.out.alloc (by simp;omega) _) (by simp;omega) hgrow2 (λg hg=>aG lr.out g hg) HB.out
  have eh:w6.1[b]?=UX (UT ⟨v0 :: UO F7 (n1+1) c1' :: UO A2 n2 c2 :: mo⟩ rd (0,0)):=by
   obtain⟨q0,q1,_,_,q4⟩:=kH.out.ai ((ac.refl _).alloc (UT #[UM US off] 3));exact(hgrow2.block b (ae q1) (λe=>aU q4 q1 (lV (by decide)) e.symm)).trans q1
  obtain⟨Nd,c2',rfl,_⟩:=aL hown2;have d2:w6.cell? ⟨b,2,UW⟩=UX (UO A2 n2 c2):=ak eh 2;have NF:w6.frozen? ⟨b,2,UW⟩=false:=bk eh 2;haveI:af b w6:=af.of (ae eh);have HE:=aa (And.intro oe oh);clear oe oh eh hown2 hgrow2 e1 e2 NI NJ kH nX;go_wp2;go_ret;exact⟨rfl,λ_=>⟨_,_,_,HE.out.1⟩,HE.out.2⟩
 rw[hb]at hf;have HF:=aa hf;clear hf h;go_enter Tryz.func162,Tryz.ntmps162;go_wp2_with fail;refine HF.out.mono ?_;rintro e w' ⟨rfl,rfl⟩;go_wp2;go_ret;exact⟨rfl,(λh=>nomatch h),Below.refl _ _⟩
theorem n7{w:UY}{B n c:Nat}{A:Option Addr}{l:List UInt8}(h:w.ownsRow B 5 1 (UO A n c) n (Lib.byteCells l))(h0:0<n) :
  (convert 22 9 (UO A n c)).run Tryz.prog w=.ok (UN ⟨l.toArray⟩) w:=by
 have hl:l.length=n:=by have:=h.1;rw[Lib.byteCells_length]at this;simpa using this
 obtain⟨g,rfl,_,_,hc⟩:=fg h h0
 rw[run_convert_bytes_arg w 22 5 Tryz.underlying22 Tryz.underlying5 g 0 n c (l.map λx=>(x.toNat:Int)) (by simpa using hl) (λi hi=>by
  rw[Nat.zero_add];refine hc i _ ?_;have hil:i<l.length:=by omega
  simp[Lib.byteCells,List.getD_eq_getElem?_getD,hil]) _ Tryz.underlying9]
 simp[strOfNums,Function.comp_def]
theorem BV.after{w w1:UY}{B b:Nat}{v0 v1 v2:Value}{ah:List St.It}{tx:List UInt8}{cuts:List Nat}(h:BV rd mo w B b v0 v1 v2 ah tx cuts){row:Option Nat}(hg:w.grownBy w1 row)(hr:row=v0.ownBlock\/row=v1.ownBlock\/row=v2.ownBlock) :
  w1.1[b]?=UX (UT ⟨v0 :: v1 :: v2 :: mo⟩ rd (0,0)):=by
 obtain⟨_,h1,h2,h3,h4⟩:=h;refine(hg.block b (ae h1) (λe=>?_)).trans h1;rcases hr with rfl|rfl|rfl
 ·exact aU h2 h1 (lV (by decide)) e.symm
 ·exact aU h3 h1 (lV (by decide)) e.symm
 exact aU h4 h1 (lV (by decide)) e.symm
theorem mQ(w W:UY)(B b:Nat)(ah:List St.It)(tx:List UInt8)(cuts:List Nat)(h:bY rd mo w B b ah tx cuts)(hu:ac w W)(h1:ah.length<=600)(h3:tx.length<=2000)(hBw:B<=w.1.size) :
  Calls Tryz.prog 121 #[UQ (UX ⟨b,0,UW⟩)] W λe w'=>
   e=UU (.tuple #[])/\bY rd mo w' B b (ah++St.b8 tx) [] cuts/\Below B W w'/\∀k,w.1.size<=k->k<W.1.size->w'.1[k]?=W.1[k]?:=by
 obtain⟨v0,v1,v2,hv⟩:=h;have Td:=ae hv.2.1;have hol:∀g,v0.ownBlock=UX g->g<w.1.size:=λg hg=>(hv.2.2.1.lt g hg).2
 replace hv:=hv.ai hu
 have dD:B<=W.1.size:=Nat.le_trans hBw hu.size;have HV:=aa hv;obtain⟨A0,c0,A1,c1,A2,c2,rfl,rfl,rfl⟩:=hv.cells;obtain⟨hB,hbk,ho0,dX,fN⟩:=hv;have g0:W.cell? ⟨b,0,UW⟩=UX (UO A0 ah.length c0):=ak hbk 0;have g1:W.cell? ⟨b,1,UW⟩=UX (UO A1 tx.length c1):=ak hbk 1;haveI:af b W:=af.of (ae hbk);have pU:=aa ho0;have rX:=aa dX;have HB:=aa hB;have Gh:=aa hol;have Tc:=hu.size;rcases Nat.eq_zero_or_pos tx.length with z|z
 ·have htx:tx=[]:=List.eq_nil_of_length_eq_zero z;subst htx;clear ho0 dX fN hbk hB hol;go_enter Tryz.func121,Tryz.ntmps121;go_wp2;go_end0;exact⟨rfl,⟨_,_,_,by simpa[St.b8]using HV.out⟩,Below.refl _ _,λ_ _ _=>rfl⟩
 have z':(0:Int)<(tx.length:Int):=by omega
 have hcv:=n7 dX z;have RG:(convert 22 9 (.slice A1 tx.length c1)).run Tryz.prog W.drew=.ok (.string ⟨tx.toArray⟩) W.drew:=n7 (w:=W.drew) dX z;obtain⟨i0,hi,hz0,hz1,hz2⟩:=info_parts dw;have vz:ac W W.drew:=uZ;have SM:=aa (HV.out.ai vz);generalize hn0:ah.length=n0 at *;generalize iS:tx.length=n1 at *;clear ho0 dX fN hbk hB hol hcv;go_enter Tryz.func121,Tryz.ntmps121;go_wp2_with fail;go_region_law (refine cH rfl (.tmp 12) (.tmp 19) 37 rfl B 36 i0 (.agg #[.int .i64 0,.string ⟨#[]⟩,.int .i64 0]) 3 32 Tryz.underlying37 hi hz0 hz1 hz2 rfl (by decide) (.slice A0 n0 c0) n0 _ rfl (eK (pU.out.alloc (.cells #[.int .i64 1,.string ⟨tx.toArray⟩,.int .i64 0] 36)) (ac.refl _).drew) ⟨W.1.size,0,none⟩ 1 1 [.int .i64 1,.string ⟨tx.toArray⟩,.int .i64 0] rfl rfl (eA W _ _ _ 36 _ rfl) (cN 1 0 _) (by unfold maxLen;omega) (by omega) (by simp;omega) ?_;intro v' w1 hown' hgrow _;have hgr:=aW (ac.gb (uZ:ac W (W.alloc (.cells #[.int .i64 1,.string ⟨tx.toArray⟩,.int .i64 0] 36)).drew) (Value.slice A0 n0 c0).ownBlock) hgrow (λg e=>Or.inl e);have hb4:=HV.out.after hgr (Or.inl rfl);have e0:w1.cell? ⟨b,0,none⟩=some (.slice A0 n0 c0):=ak hb4 0;have e1:w1.cell? ⟨b,1,none⟩=some (.slice A1 n1 c1):=ak hb4 1;have f0:w1.frozen? ⟨b,0,none⟩=false:=bk hb4 0;have f1:w1.frozen? ⟨b,1,none⟩=false:=bk hb4 1;haveI:af b w1:=af.of (ae hb4);obtain⟨A',c',rfl,_⟩:=aL hown')
 all_goals
  have hJ:BV rd mo (w1.setCell ⟨b,0,UW⟩ (UO A' (n0+1) c')) B b (UO A' (n0+1) c') (UO A1 n1 c1) (UO A2 cuts.length c2) (ah++[(1,tx,0)]) tx cuts:=by
   refine BV.vu HV.out hgr ?_;rw[bE,List.length_append,List.length_singleton,hn0];exact hown'
  have hbl:Below B W (w1.setCell ⟨b,0,UW⟩ (UO A' (n0+1) c')):=dn (Below.refl B W) dD hgr (λg hg=>aG pU.out g hg) HB.out;have hfr:∀k,w.1.size<=k->k<W.1.size->w1.1[k]?=W.1[k]?:=λk hk hk2=>hgr.block k hk2 (λe=>by have:=Gh.out k e.symm;omega)
  have HE:=aa (And.intro hJ (And.intro hbl hfr));clear hJ hbl hfr hgr hgrow hown' hb4;go_wp2;go_end0;have ht:St.b8 tx=[(1,tx,0)]:=by unfold St.b8;rw[if_neg (by intro e;rw[e]at iS;simp at iS;omega)]
  have eF:bY rd mo ((w1.setCell ⟨b,0,UW⟩ (UO A' (n0+1) c')).setCell ⟨b,1,UW⟩ (UO UW 0 0)) B b (ah++St.b8 tx) [] cuts:=by
   rw[ht];exact⟨_,_,_,HE.out.1.Au⟩
  refine⟨rfl,eF,HE.out.2.1.setCell (p:=⟨b,1,UW⟩) HB.out _,λk hk hk2=>?_⟩;rw[heap_setCell_other _ _ _ _ (by show k≠b;omega),heap_setCell_other _ _ _ _ (by show k≠b;omega)];exact HE.out.2.2 k hk hk2
end
section
variable {mo:List Value} {rd:TypeId} [ub rd]
theorem uS(t:List UInt8):(St.b8 t).length<=1:=by rw[St.tH];split<;>omega
theorem kO(w:UY)(B b:Nat)(ah:List St.It)(tx:List UInt8)(cuts:List Nat)(k i:Int)(s:ByteArray)(off:Nat)(h:bY rd mo w B b ah tx cuts)(h1:ah.length<=600)(h2:cuts.length<=2000)(h3:tx.length<=2000)(hBw:B<=w.1.size) :
  Calls Tryz.prog 164 #[UQ (UX ⟨b,0,UW⟩),.agg #[UM US k,UN s,UM US i],UM US off] w λe w'=>
   e=UU (UP (!St.aV ah.length tx.length cuts.length false))/\(St.aV ah.length tx.length cuts.length false=false->bY rd mo w' B b (ah++St.b8 tx++[(k,s.1.1,i)]) [] (cuts++[off]))/\Below B w w':=by
 have huA:ac w (w.alloc (UT #[UM US k,UN s,UM US i] 36)):=uZ;have hf:=od _ B b ah tx cuts false (h.ai huA) h1 h2;have hfl:=mQ w _ B b ah tx cuts h huA h1 h3 hBw;have nl:=aa hfl;cases hb:St.aV ah.length tx.length cuts.length false
 ·rw[hb]at hf;have HF:=aa hf;clear hf hfl h;go_enter Tryz.func164,Tryz.ntmps164;go_wp2_with fail;refine HF.out.mono ?_;rintro e w' ⟨rfl,rfl⟩;go_wp2_with fail;refine nl.out.mono ?_;rintro e w2 ⟨rfl,⟨v0,v1,v2,hv⟩,hbl,hfr⟩;have oj:w2.1[w.1.size]?=UX (UT #[UM US k,UN s,UM US i] 36 (0,0)):=(hfr _ (Nat.le_refl _) (by simp)).trans (heap_alloc_new w _);have x0:w2.cell? ⟨w.1.size,0,UW⟩=UX (UM US k):=ak oj 0;have x1:w2.cell? ⟨w.1.size,1,UW⟩=UX (UN s):=ak oj 1;have x2:w2.cell? ⟨w.1.size,2,UW⟩=UX (UM US i):=ak oj 2;haveI:af w.1.size w2:=af.of (ae oj);have HV:=aa hv;obtain⟨A0,c0,A1,c1,A2,c2,rfl,rfl,rfl⟩:=hv.cells;obtain⟨hB,hbk,ho0,dX,fN⟩:=hv;have g0:w2.cell? ⟨b,0,UW⟩=UX (UO A0 (ah++St.b8 tx).length c0):=ak hbk 0;have kr:B<=w2.1.size:=Nat.le_trans (Nat.le_trans hBw huA.size) hbl.size;have cZ:=aa ((Below.refl B w).alloc hBw (UT #[UM US k,UN s,UM US i] 36) |>.trans hbl);have RO:(ah++St.b8 tx).length<=601:=by have:=uS tx;simp;omega
  haveI:af b w2:=af.of (ae hbk);have pU:=aa ho0;have HB:=aa hB;generalize hits:ah++St.b8 tx=qW at *;obtain⟨i0,hi,hz0,hz1,hz2⟩:=info_parts dw;obtain⟨ii,ki,kz0,kz1,kz2⟩:=info_parts gv;generalize hn0:qW.length=n0 at *;generalize fk:cuts.length=n2 at *;clear hbk ho0 dX fN hB hbl hfr oj HF nl;go_wp2_with fail;go_region_law (refine cH rfl (.tmp 15) (.tmp 17) 37 rfl B 36 i0 (.agg #[.int .i64 0,.string ⟨#[]⟩,.int .i64 0]) 3 32 Tryz.underlying37 hi hz0 hz1 hz2 rfl (by decide) (.slice A0 n0 c0) n0 _ rfl (eK (pU.out.alloc (.cells #[.int .i64 k,.string s,.int .i64 i] 36)) (ac.refl _).drew) ⟨w2.1.size,0,none⟩ 1 1 [.int .i64 k,.string s,.int .i64 i] rfl rfl (eA w2 _ _ _ 36 _ rfl) (cN k i _) (by unfold maxLen;omega) (by omega) (by simp;omega) ?_;intro v' w1 hown' hgrow _;have hgr:=aW (ac.gb (uZ:ac w2 (w2.alloc (.cells #[.int .i64 k,.string s,.int .i64 i] 36)).drew) (Value.slice A0 n0 c0).ownBlock) hgrow (λg e=>Or.inl e);have hb4:=HV.out.after hgr (Or.inl rfl);have e0:w1.cell? ⟨b,0,none⟩=some (.slice A0 n0 c0):=ak hb4 0;have f0:w1.frozen? ⟨b,0,none⟩=false:=bk hb4 0;haveI:af b w1:=af.of (ae hb4);obtain⟨A',c',rfl,_⟩:=aL hown')
  all_goals
   have hJ:BV rd mo (w1.setCell ⟨b,0,UW⟩ (UO A' (n0+1) c')) B b (UO A' (n0+1) c') (UO A1 ([]:List UInt8).length c1) (UO A2 n2 c2) (qW++[(k,s.1.1,i)]) [] cuts:=by
    refine BV.vu HV.out hgr ?_;rw[bE,List.length_append,List.length_singleton,hn0];simp only[be];exact hown'
   have kL:Below B w (w1.setCell ⟨b,0,UW⟩ (UO A' (n0+1) c')):=dn cZ.out kr hgr (λg hg=>aG pU.out g hg) HB.out;have e2:w1.cell? ⟨b,2,UW⟩=UX (UO A2 n2 c2):=ak hb4 2;have f2:w1.frozen? ⟨b,2,UW⟩=false:=bk hb4 2;have kH:=aa hJ;have nX:=aa kL;have lr:=aa hJ.2.2.2.2;have nh:B<=w1.1.size:=by have:=kL.size;simp at this;omega
   clear hJ kL hb4 hown' hgrow hgr g0 x0 x1 x2 HV pU cZ;go_wp2_with (at_builtin;refine wpList_append_own _ rfl _ _ 42 rfl B 3 ii (.int .i64 0) 1 8 Tryz.underlying42 ki kz0 kz1 kz2 rfl (by decide) (.slice A2 n2 c2) n2 _ rfl (by have:=lr.out.alloc (.cells #[.int .i64 off] 3);rw[fk]at this;exact this) _ 1 1 [.int .i64 off] rfl rfl ?_ (by simp;rfl) (by unfold maxLen;omega) (by omega) ?_ ?_)
   ·exact sU _ _ _ _ (by simp)
   ·simp;omega
   intro v2' w6 hown2 hgrow2 _
   have oe:BV rd mo (w6.setCell ⟨b,2,UW⟩ v2') B b (UO A' (n0+1) c') (UO A1 ([]:List UInt8).length c1) v2' (qW++[(k,s.1.1,i)]) [] (cuts++[off]):=by
    refine BV.vw (kH.out.ai ((ac.refl _).alloc _)) hgrow2 ?_;rw[dj,List.length_append,List.length_singleton,fk];exact hown2
   have oh:Below B w (w6.setCell ⟨b,2,UW⟩ v2'):=dn (nX.out.alloc (by simp;omega) _) (by simp;omega) hgrow2 (λg hg=>aG lr.out g hg) HB.out;have eh:=(kH.out.ai ((ac.refl _).alloc (UT #[UM US off] 3))).after hgrow2 (Or.inr (Or.inr rfl));obtain⟨Nd,c2',rfl,_⟩:=aL hown2;have d2:w6.cell? ⟨b,2,UW⟩=UX (UO A2 n2 c2):=ak eh 2;have NF:w6.frozen? ⟨b,2,UW⟩=false:=bk eh 2;haveI:af b w6:=af.of (ae eh);have HE:=aa (And.intro (show bY rd mo _ B b (qW++[(k,s.1.1,i)]) [] (cuts++[off])from⟨_,_,_,oe⟩) oh);clear oe oh eh hown2 hgrow2 e0 f0 e2 f2 kH nX;go_wp2;go_ret;subst hits;exact⟨rfl,λ_=>HE.out.1,HE.out.2⟩
 rw[hb]at hf;have HF:=aa hf;clear hf hfl nl;go_enter Tryz.func164,Tryz.ntmps164;go_wp2_with fail;refine HF.out.mono ?_;rintro e w' ⟨rfl,rfl⟩;go_wp2;go_ret;exact⟨rfl,(λh=>nomatch h),(Below.refl B w).alloc hBw _⟩
theorem ph(w:UY)(B b:Nat)(ah:List St.It)(tx:List UInt8)(cuts:List Nat)(h:bY rd mo w B b ah tx cuts)(h1:ah.length<=600)(h3:tx.length<=2000)(hBw:B<=w.1.size) :
  Calls Tryz.prog 82 #[UQ (UX ⟨b,0,UW⟩)] w λe w'=>∃A c,e=UU (UO A (ah++St.b8 tx).length c)/\aO w' A (ah++St.b8 tx)/\(ah++St.b8 tx).length<=c/\c<=9223372036854775807/\Below B w w':=by
 have nl:=aa (mQ w w B b ah tx cuts h (ac.refl w) h1 h3 hBw);clear h;go_enter Tryz.func82,Tryz.ntmps82;go_wp2_with fail;refine nl.out.mono ?_;rintro e w2 ⟨rfl,⟨v0,v1,v2,hv⟩,hbl,_⟩;obtain⟨A0,c0,A1,c1,A2,c2,rfl,rfl,rfl⟩:=hv.cells;obtain⟨hB,hbk,ho0,dX,fN⟩:=hv;have g0:w2.cell? ⟨b,0,UW⟩=UX (UO A0 (ah++St.b8 tx).length c0):=ak hbk 0;haveI:af b w2:=af.of (ae hbk);obtain⟨_,_,hq,hq1,hq2⟩:=aL ho0;simp only[Value.slice.injEq]at hq;obtain⟨rfl,_,rfl⟩:=hq;have HE:=aa (And.intro (aX ho0 rfl) hbl);clear hbk ho0 dX fN hB hbl nl;generalize Hn:ah++St.b8 tx=f at *;go_wp2;go_ret;subst Hn;exact⟨_,_,rfl,HE.out.1,hq1,by unfold maxLen at hq2;omega,HE.out.2⟩
theorem oU(w:UY)(B b:Nat)(ah:List St.It)(tx:List UInt8)(cuts:List Nat)(last:Nat)(h:bY rd mo w B b ah tx cuts)(h2:cuts.length<=2000)(hBw:B<=w.1.size) :
  Calls Tryz.prog 112 #[UQ (UX ⟨b,0,UW⟩),UM US last] w λe w'=>∃A c,e=UU (UO A (cuts.length+1) c)/\iw w' A (cuts++[last])/\cuts.length+1<=c/\c<=9223372036854775807/\Below B w w':=by
 have Uc:=(inferInstance:ub rd);obtain⟨v0,v1,v2,hv⟩:=h;obtain⟨A0,c0,A1,c1,A2,c2,rfl,rfl,rfl⟩:=hv.cells;obtain⟨hB,hbk,ho0,dX,fN⟩:=hv;have g2:w.cell? ⟨b,2,none⟩=some (.slice A2 cuts.length c2):=ak hbk 2;haveI:af b w:=af.of (ae hbk);obtain⟨ii,ki,kz0,kz1,kz2⟩:=info_parts gv;have lr:=aa fN;clear hbk ho0 dX fN hB;generalize fk:cuts.length=n2 at *;go_enter Tryz.func112,Tryz.ntmps112;go_wp2_with (at_builtin;refine wpList_append_own _ rfl _ _ 42 rfl B 3 ii (.int .i64 0) 1 8 Tryz.underlying42 ki kz0 kz1 kz2 rfl (by decide) (.slice A2 n2 c2) n2 _ rfl (lr.out.alloc _) _ 1 1 [.int .i64 last] rfl rfl ?_ (by simp;rfl) (by unfold maxLen;omega) (by omega) ?_ ?_)
 ·exact gT _ _ _
 ·simp;omega
 intro v' w4 hown' hgrow _;obtain⟨A',c',rfl,hq1,hq2⟩:=aL hown';have vE:iw w4 A' (cuts++[last]):=uF (n:=n2+1) (by rw[dj];exact hown') (by simp[fk]);have hbl:Below B w w4:=((Below.refl B w).alloc hBw _).grown hgrow (by simp;omega) (λg hg=>aG lr.out g hg);have HE:=aa (And.intro vE hbl);clear vE hbl hown' hgrow;go_wp2;go_ret;exact⟨_,_,rfl,HE.out.1,hq1,by unfold maxLen at hq2;omega,HE.out.2⟩
end
