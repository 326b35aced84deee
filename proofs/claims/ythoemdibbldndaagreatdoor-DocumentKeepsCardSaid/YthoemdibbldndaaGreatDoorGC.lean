/- The contracts of the codecs' builder: full, Byte, flush, Item, Items, Cuts. -/
import Derived.Test.YthoemdibbldndaaGreatDoorGA
set_option linter.all false
set_option maxHeartbeats 0
set_option maxRecDepth 20000
open Go.Value renaming int->Yh,string->Yi,slice->Yj,bool->Yk,pointer->Yl
open Go.IntKind renaming i64->Yn
open Go.Obj renaming cells->Yo
open Go.Ending renaming returned->Yp
open Option renaming none->Yq,some->Yr
open Go renaming World->Ys
namespace Go.Proofs.YthoemdibbldndaaGreatDoor
open Go.RowKit
section
class vi (rd:TypeId):Prop where
 h:∀e∈[36,5,3],rd≠e
theorem my{rd e:TypeId}[r:vi rd](h:e∈[36,5,3]):rd≠e:=r.h e h
variable {mo:List Value} {rd:TypeId}
def BV(rd:TypeId)(mo:List Value)(w:Ys)(B b:Nat)(v0 v1 v2:Value)(ah:List St.It)(tx:List UInt8)(cuts:List Nat):Prop:=
 B<=b/\w.1[b]?=Yr (Yo ⟨v0 :: v1 :: v2 :: mo⟩ rd (0,0))/\w.ownsRow B 36 3 v0 ah.length (ak ah)/\w.ownsRow B 5 1 v1 tx.length (Lib.byteCells tx)/\w.ownsRow B 3 1 v2 cuts.length (eY cuts)
def b8(rd:TypeId)(mo:List Value)(w:Ys)(B b:Nat)(ah:List St.It)(tx:List UInt8)(cuts:List Nat):Prop:=∃v0 v1 v2,BV rd mo w B b v0 v1 v2 ah tx cuts
theorem BV.ai{a c:Ys}{B b:Nat}{v0 v1 v2:Value}{ah:List St.It}{tx:List UInt8}{cuts:List Nat}(h:BV rd mo a B b v0 v1 v2 ah tx cuts)(u:ac a c):BV rd mo c B b v0 v1 v2 ah tx cuts:=by
 obtain⟨h0,h1,h2,h3,h4⟩:=h;exact⟨h0,(u.below.block b (ae h1)).trans h1,aF u h2,aF u h3,aF u h4⟩
theorem b8.ai{a c:Ys}{B b:Nat}{ah:List St.It}{tx:List UInt8}{cuts:List Nat}(h:b8 rd mo a B b ah tx cuts)(u:ac a c):b8 rd mo c B b ah tx cuts:=by
 obtain⟨v0,v1,v2,h⟩:=h;exact⟨v0,v1,v2,h.ai u⟩
theorem oV(w:Ys)(B b:Nat)(ah:List St.It)(tx:List UInt8)(cuts:List Nat)(t:Bool)(h:b8 rd mo w B b ah tx cuts)(h1:ah.length<=600)(h2:cuts.length<=2000) :
  Calls Tryz.prog 190 #[Yl (Yr ⟨b,0,Yq⟩),Yk t] w λe w'=>e=Yp (Yk (St.aU ah.length tx.length cuts.length t))/\w=w':=by
 obtain⟨v0,v1,v2,_,hb,h3,h4,h5⟩:=h;obtain⟨A0,c0,rfl,_⟩:=aJ h3;obtain⟨A1,c1,rfl,_⟩:=aJ h4;obtain⟨A2,c2,rfl,_⟩:=aJ h5;have g0:w.cell? ⟨b,0,Yq⟩=Yr (Yj A0 ah.length c0):=aj hb 0;have g1:w.cell? ⟨b,1,Yq⟩=Yr (Yj A1 tx.length c1):=aj hb 1;have g2:w.cell? ⟨b,2,Yq⟩=Yr (Yj A2 cuts.length c2):=aj hb 2;haveI:af b w:=af.of (ae hb);clear hb h3 h4 h5;unfold St.aU;generalize ah.length=n0 at *;generalize tx.length=n1 at *;generalize cuts.length=n2 at *;rcases Nat.eq_zero_or_pos n1 with z|z
 ·subst z;cases t<;>
  ·by_cases q1:512<n0+1<;>by_cases q2:1024<n2+1<;>
   ·have q1':=q1;have q2':=q2;go_enter Tryz.func190,Tryz.ntmps190;go_wp2;go_ret;exact⟨az (by simp<;>omega),rfl⟩
 have z':(0:Int)<(n1:Int):=by omega
 cases t
 ·by_cases q1:512<n0+1+1<;>by_cases q2:1024<n2+1<;>
  ·go_enter Tryz.func190,Tryz.ntmps190;go_wp2;go_ret;exact⟨az (by simp<;>omega),rfl⟩
 by_cases q1:512<n0+1<;>by_cases q2:1024<n2+1<;>
 ·go_enter Tryz.func190,Tryz.ntmps190;go_wp2;go_ret;exact⟨az (by simp<;>omega),rfl⟩
theorem BV.cells{w:Ys}{B b:Nat}{v0 v1 v2:Value}{ah:List St.It}{tx:List UInt8}{cuts:List Nat}(h:BV rd mo w B b v0 v1 v2 ah tx cuts):∃A0 c0 A1 c1 A2 c2,v0=Yj A0 ah.length c0/\v1=Yj A1 tx.length c1/\v2=Yj A2 cuts.length c2:=by
 obtain⟨_,_,h2,h3,h4⟩:=h;obtain⟨A0,c0,e0,_⟩:=aJ h2;obtain⟨A1,c1,e1,_⟩:=aJ h3;obtain⟨A2,c2,e2,_⟩:=aJ h4;exact⟨A0,c0,A1,c1,A2,c2,e0,e1,e2⟩
variable [vi rd]
theorem BV.GS{w w4:Ys}{B b:Nat}{v0 v1 v2 v':Value}{ah:List St.It}{tx jB:List UInt8}{cuts:List Nat}(h:BV rd mo w B b v0 v1 v2 ah tx cuts)(hg:w.grownBy w4 v1.ownBlock)(ho:w4.ownsRow B 5 1 v' jB.length (Lib.byteCells jB)) :
  BV rd mo (w4.setCell ⟨b,1,Yq⟩ v') B b v0 v' v2 ah jB cuts:=by
 obtain⟨h0,h1,h2,h3,h4⟩:=h;have hb4:w4.1[b]?=Yr (Yo ⟨v0 :: v1 :: v2 :: mo⟩ rd (0,0)):=(hg.block b (ae h1) (λe=>aT h3 h1 (my (by decide)) e.symm)).trans h1;exact⟨h0,heap_setCell_same w4 b 1 _ _ v' hb4,aD (h2.kept hg (da h2 h3 (by decide))) (aT h2 h1 (my (by decide))),aD ho (aT ho hb4 (my (by decide))),aD (h4.kept hg (da h4 h3 (by decide))) (aT h4 h1 (my (by decide)))⟩
theorem BV.xj{w w4:Ys}{B b:Nat}{v0 v1 v2 v':Value}{ah:List St.It}{tx:List UInt8}{cuts rI:List Nat}(h:BV rd mo w B b v0 v1 v2 ah tx cuts)(hg:w.grownBy w4 v2.ownBlock)(ho:w4.ownsRow B 3 1 v' rI.length (eY rI)) :
  BV rd mo (w4.setCell ⟨b,2,Yq⟩ v') B b v0 v1 v' ah tx rI:=by
 obtain⟨h0,h1,h2,h3,h4⟩:=h;have hb4:w4.1[b]?=Yr (Yo ⟨v0 :: v1 :: v2 :: mo⟩ rd (0,0)):=(hg.block b (ae h1) (λe=>aT h4 h1 (my (by decide)) e.symm)).trans h1;exact⟨h0,heap_setCell_same w4 b 2 _ _ v' hb4,aD (h2.kept hg (da h2 h4 (by decide))) (aT h2 h1 (my (by decide))),aD (h3.kept hg (da h3 h4 (by decide))) (aT h3 h1 (my (by decide))),aD ho (aT ho hb4 (my (by decide)))⟩
theorem BV.xh{w w4:Ys}{B b:Nat}{v0 v1 v2 v':Value}{ah fD:List St.It}{tx:List UInt8}{cuts:List Nat}(h:BV rd mo w B b v0 v1 v2 ah tx cuts)(hg:w.grownBy w4 v0.ownBlock)(ho:w4.ownsRow B 36 3 v' fD.length (ak fD)) :
  BV rd mo (w4.setCell ⟨b,0,Yq⟩ v') B b v' v1 v2 fD tx cuts:=by
 obtain⟨h0,h1,h2,h3,h4⟩:=h;have hb4:w4.1[b]?=Yr (Yo ⟨v0 :: v1 :: v2 :: mo⟩ rd (0,0)):=(hg.block b (ae h1) (λe=>aT h2 h1 (my (by decide)) e.symm)).trans h1;exact⟨h0,heap_setCell_same w4 b 0 _ _ v' hb4,aD ho (aT ho hb4 (my (by decide))),aD (h3.kept hg (da h3 h2 (by decide))) (aT h3 h1 (my (by decide))),aD (h4.kept hg (da h4 h2 (by decide))) (aT h4 h1 (my (by decide)))⟩
theorem BV.Co{w:Ys}{B b:Nat}{v0 v1 v2:Value}{ah:List St.It}{tx:List UInt8}{cuts:List Nat}(h:BV rd mo w B b v0 v1 v2 ah tx cuts):BV rd mo (w.setCell ⟨b,1,Yq⟩ (Yj Yq 0 0)) B b v0 (Yj Yq 0 0) v2 ah [] cuts:=by
 obtain⟨h0,h1,h2,h3,h4⟩:=h;exact⟨h0,heap_setCell_same w b 1 _ _ _ h1,aD h2 (aT h2 h1 (my (by decide))),World.ownsRow_nil _ _ _ _,aD h4 (aT h4 h1 (my (by decide)))⟩
end
section
variable {mo:List Value} {rd:TypeId} [vi rd]
theorem dx{B b i:Nat}{w w2 w4:Ys}{row:Option Nat}{v:Value}(h:Below B w w2)(hBw:B<=w2.1.size)(hg:w2.grownBy w4 row)(hr:∀g,row=Yr g->B<=g)(hB:B<=b):Below B w (w4.setCell ⟨b,i,Yq⟩ v):=
 (h.grown hg hBw hr).setCell (p:=⟨b,i,Yq⟩) hB v
theorem oN(w:Ys)(B b:Nat)(ah:List St.It)(tx:List UInt8)(cuts:List Nat)(c:UInt8)(off:Nat)(h:b8 rd mo w B b ah tx cuts)(h1:ah.length<=600)(h2:cuts.length<=2000)(h3:tx.length<=2000)(hBw:B<=w.1.size) :
  Calls Tryz.prog 162 #[Yl (Yr ⟨b,0,Yq⟩),Yh .u8 c.toNat,Yh Yn off] w λe w'=>
   e=Yp (Yk (!St.aU ah.length tx.length cuts.length true))/\(St.aU ah.length tx.length cuts.length true=false->b8 rd mo w' B b ah (tx++[c]) (cuts++[off]))/\Below B w w':=by
 have hf:=oV w B b ah tx cuts true h h1 h2;cases hb:St.aU ah.length tx.length cuts.length true
 ·rw[hb]at hf;obtain⟨v0,v1,v2,hv⟩:=h;have HV:=aa hv;obtain⟨hB,hbk,ho0,dZ,fw⟩:=hv;obtain⟨A1,c1,rfl,_⟩:=aJ dZ;obtain⟨A2,c2,rfl,_⟩:=aJ fw;have g1:w.cell? ⟨b,1,none⟩=some (.slice A1 tx.length c1):=aj hbk 1;have g2:w.cell? ⟨b,2,none⟩=some (.slice A2 cuts.length c2):=aj hbk 2;have f1:w.frozen? ⟨b,1,none⟩=false:=bz hbk 1;have hlt:=ae hbk;haveI:af b w:=af.of hlt;obtain⟨i8,hi,hz0,hz1,hz2⟩:=info_parts pY;obtain⟨ii,ki,kz0,kz1,kz2⟩:=info_parts fO;have HF:=aa hf;have nD:=aa dZ;have HB:=aa hB;generalize gu:tx.length=n1 at *;generalize fe:cuts.length=n2 at *;clear hf hbk ho0 dZ fw hB;go_enter Tryz.func162,Tryz.ntmps162;go_wp2_with fail;refine HF.out.mono ?_;rintro e w' ⟨rfl,rfl⟩;go_wp2_with (at_builtin;refine wpList_append_own _ rfl _ _ 22 rfl B 5 i8 (.int .u8 0) 1 1 Tryz.underlying22 hi hz0 hz1 hz2 rfl (by decide) (.slice A1 n1 c1) n1 _ rfl (nD.out.alloc _) _ 1 1 [.int .u8 c.toNat] rfl rfl ?_ (by simp;rfl) (by unfold maxLen;omega) (by omega) ?_ ?_)
  ·exact gy _ _ _
  ·simp;omega
  intro v' w4 hown' hgrow _
  have iq:BV rd mo (w4.setCell ⟨b,1,Yq⟩ v') B b v0 v' (Yj A2 n2 c2) ah (tx++[c]) cuts:=by
   refine BV.GS (HV.out.ai ((ac.refl w).alloc _)) hgrow ?_;rw[wN,List.length_append,List.length_singleton,gu];exact hown'
  have lk:Below B w (w4.setCell ⟨b,1,Yq⟩ v'):=dx ((Below.refl B w).alloc hBw _) (by simp;omega) hgrow (λg hg=>aB nD.out g hg) HB.out
  have hb4:w4.1[b]?=Yr (Yo ⟨v0 :: Yj A1 n1 c1 :: Yj A2 n2 c2 :: mo⟩ rd (0,0)):=by
   obtain⟨q0,q1,_,q3,_⟩:=HV.out.ai ((ac.refl w).alloc (Yo #[Yh .u8 c.toNat] 5));exact(hgrow.block b (ae q1) (λe=>aT q3 q1 (my (by decide)) e.symm)).trans q1
  obtain⟨IK,c1',rfl,_⟩:=aJ hown';have e1:w4.cell? ⟨b,1,Yq⟩=Yr (Yj A1 n1 c1):=aj hb4 1;have Qw:w4.frozen? ⟨b,1,Yq⟩=false:=bz hb4 1;have e2:w4.cell? ⟨b,2,Yq⟩=Yr (Yj A2 n2 c2):=aj hb4 2;have Qx:w4.frozen? ⟨b,2,Yq⟩=false:=bz hb4 2;haveI:af b w4:=af.of (ae hb4);have lh:=aa iq;have oE:=aa lk;have jZ:=aa iq.2.2.2.2;have nV:B<=w4.1.size:=by have:=lk.size;simp at this;omega
  clear iq lk hb4 hown' hgrow g1 g2 f1;go_wp2_with (at_builtin;refine wpList_append_own _ rfl _ _ 42 rfl B 3 ii (.int .i64 0) 1 8 Tryz.underlying42 ki kz0 kz1 kz2 rfl (by decide) (.slice A2 n2 c2) n2 _ rfl (by have:=jZ.out.alloc (.cells #[.int .i64 off] 3);rw[fe]at this;exact this) _ 1 1 [.int .i64 off] rfl rfl ?_ (by simp;rfl) (by unfold maxLen;omega) (by omega) ?_ ?_)
  ·exact ue _ _ _ _ (by simp)
  ·simp;omega
  intro v2' w6 hown2 hgrow2 _
  have oW:BV rd mo (w6.setCell ⟨b,2,Yq⟩ v2') B b v0 (Yj IK (n1+1) c1') v2' ah (tx++[c]) (cuts++[off]):=by
   refine BV.xj (lh.out.ai ((ac.refl _).alloc _)) hgrow2 ?_;rw[dB,List.length_append,List.length_singleton,fe];exact hown2
  have oY:Below B w (w6.setCell ⟨b,2,Yq⟩ v2'):=dx (oE.out.alloc (by simp;omega) _) (by simp;omega) hgrow2 (λg hg=>aB jZ.out g hg) HB.out
  have fT:w6.1[b]?=Yr (Yo ⟨v0 :: Yj IK (n1+1) c1' :: Yj A2 n2 c2 :: mo⟩ rd (0,0)):=by
   obtain⟨q0,q1,_,_,q4⟩:=lh.out.ai ((ac.refl _).alloc (Yo #[Yh Yn off] 3));exact(hgrow2.block b (ae q1) (λe=>aT q4 q1 (my (by decide)) e.symm)).trans q1
  obtain⟨PD,c2',rfl,_⟩:=aJ hown2;have d2:w6.cell? ⟨b,2,Yq⟩=Yr (Yj A2 n2 c2):=aj fT 2;have Qs:w6.frozen? ⟨b,2,Yq⟩=false:=bz fT 2;haveI:af b w6:=af.of (ae fT);have HE:=aa (And.intro oW oY);clear oW oY fT hown2 hgrow2 e1 e2 Qw Qx lh oE;go_wp2;go_ret;exact⟨rfl,λ_=>⟨_,_,_,HE.out.1⟩,HE.out.2⟩
 rw[hb]at hf;have HF:=aa hf;clear hf h;go_enter Tryz.func162,Tryz.ntmps162;go_wp2_with fail;refine HF.out.mono ?_;rintro e w' ⟨rfl,rfl⟩;go_wp2;go_ret;exact⟨rfl,(λh=>nomatch h),Below.refl _ _⟩
theorem oP{w:Ys}{B n c:Nat}{A:Option Addr}{l:List UInt8}(h:w.ownsRow B 5 1 (Yj A n c) n (Lib.byteCells l))(h0:0<n) :
  (convert 22 9 (Yj A n c)).run Tryz.prog w=.ok (Yi ⟨l.toArray⟩) w:=by
 have hl:l.length=n:=by have:=h.1;rw[Lib.byteCells_length]at this;simpa using this
 obtain⟨g,rfl,_,_,hc⟩:=dU h h0
 rw[run_convert_bytes_arg w 22 5 Tryz.underlying22 Tryz.underlying5 g 0 n c (l.map λx=>(x.toNat:Int)) (by simpa using hl) (λi hi=>by
  rw[Nat.zero_add];refine hc i _ ?_;have hil:i<l.length:=by omega
  simp[Lib.byteCells,List.getD_eq_getElem?_getD,hil]) _ Tryz.underlying9]
 simp[strOfNums,Function.comp_def]
theorem BV.after{w w1:Ys}{B b:Nat}{v0 v1 v2:Value}{ah:List St.It}{tx:List UInt8}{cuts:List Nat}(h:BV rd mo w B b v0 v1 v2 ah tx cuts){row:Option Nat}(hg:w.grownBy w1 row)(hr:row=v0.ownBlock\/row=v1.ownBlock\/row=v2.ownBlock) :
  w1.1[b]?=Yr (Yo ⟨v0 :: v1 :: v2 :: mo⟩ rd (0,0)):=by
 obtain⟨_,h1,h2,h3,h4⟩:=h;refine(hg.block b (ae h1) (λe=>?_)).trans h1;rcases hr with rfl|rfl|rfl
 ·exact aT h2 h1 (my (by decide)) e.symm
 ·exact aT h3 h1 (my (by decide)) e.symm
 exact aT h4 h1 (my (by decide)) e.symm
theorem nK(w W:Ys)(B b:Nat)(ah:List St.It)(tx:List UInt8)(cuts:List Nat)(h:b8 rd mo w B b ah tx cuts)(hu:ac w W)(h1:ah.length<=600)(h3:tx.length<=2000)(hBw:B<=w.1.size) :
  Calls Tryz.prog 121 #[Yl (Yr ⟨b,0,Yq⟩)] W λe w'=>
   e=Yp (.tuple #[])/\b8 rd mo w' B b (ah++St.ch tx) [] cuts/\Below B W w'/\∀k,w.1.size<=k->k<W.1.size->w'.1[k]?=W.1[k]?:=by
 obtain⟨v0,v1,v2,hv⟩:=h;have Wm:=ae hv.2.1;have hol:∀g,v0.ownBlock=Yr g->g<w.1.size:=λg hg=>(hv.2.2.1.lt g hg).2
 replace hv:=hv.ai hu
 have fk:B<=W.1.size:=Nat.le_trans hBw hu.size;have HV:=aa hv;obtain⟨A0,c0,A1,c1,A2,c2,rfl,rfl,rfl⟩:=hv.cells;obtain⟨hB,hbk,ho0,dZ,fw⟩:=hv;have g0:W.cell? ⟨b,0,Yq⟩=Yr (Yj A0 ah.length c0):=aj hbk 0;have g1:W.cell? ⟨b,1,Yq⟩=Yr (Yj A1 tx.length c1):=aj hbk 1;haveI:af b W:=af.of (ae hbk);have qJ:=aa ho0;have nD:=aa dZ;have HB:=aa hB;have IV:=aa hol;have Wl:=hu.size;rcases Nat.eq_zero_or_pos tx.length with z|z
 ·have htx:tx=[]:=List.eq_nil_of_length_eq_zero z;subst htx;clear ho0 dZ fw hbk hB hol;go_enter Tryz.func121,Tryz.ntmps121;go_wp2;go_end0;exact⟨rfl,⟨_,_,_,by simpa[St.ch]using HV.out⟩,Below.refl _ _,λ_ _ _=>rfl⟩
 have z':(0:Int)<(tx.length:Int):=by omega
 have hcv:=oP dZ z;have UY:(convert 22 9 (.slice A1 tx.length c1)).run Tryz.prog W.drew=.ok (.string ⟨tx.toArray⟩) W.drew:=oP (w:=W.drew) dZ z;obtain⟨i0,hi,hz0,hz1,hz2⟩:=info_parts dH;have xv:ac W W.drew:=uZ;have V1:=aa (HV.out.ai xv);generalize hn0:ah.length=n0 at *;generalize gu:tx.length=n1 at *;clear ho0 dZ fw hbk hB hol hcv;go_enter Tryz.func121,Tryz.ntmps121;go_wp2_with fail;go_region_law (refine cF rfl (.tmp 12) (.tmp 19) 37 rfl B 36 i0 (.agg #[.int .i64 0,.string ⟨#[]⟩,.int .i64 0]) 3 32 Tryz.underlying37 hi hz0 hz1 hz2 rfl (by decide) (.slice A0 n0 c0) n0 _ rfl (dV (qJ.out.alloc (.cells #[.int .i64 1,.string ⟨tx.toArray⟩,.int .i64 0] 36)) (ac.refl _).drew) ⟨W.1.size,0,none⟩ 1 1 [.int .i64 1,.string ⟨tx.toArray⟩,.int .i64 0] rfl rfl (dW W _ _ _ 36 _ rfl) (cL 1 0 _) (by unfold maxLen;omega) (by omega) (by simp;omega) ?_;intro v' w1 hown' hgrow _;have hgr:=aO (ac.gb (uZ:ac W (W.alloc (.cells #[.int .i64 1,.string ⟨tx.toArray⟩,.int .i64 0] 36)).drew) (Value.slice A0 n0 c0).ownBlock) hgrow (λg e=>Or.inl e);have hb4:=HV.out.after hgr (Or.inl rfl);have e0:w1.cell? ⟨b,0,none⟩=some (.slice A0 n0 c0):=aj hb4 0;have e1:w1.cell? ⟨b,1,none⟩=some (.slice A1 n1 c1):=aj hb4 1;have f0:w1.frozen? ⟨b,0,none⟩=false:=bz hb4 0;have f1:w1.frozen? ⟨b,1,none⟩=false:=bz hb4 1;haveI:af b w1:=af.of (ae hb4);obtain⟨A',c',rfl,_⟩:=aJ hown')
 all_goals
  have iq:BV rd mo (w1.setCell ⟨b,0,Yq⟩ (Yj A' (n0+1) c')) B b (Yj A' (n0+1) c') (Yj A1 n1 c1) (Yj A2 cuts.length c2) (ah++[(1,tx,0)]) tx cuts:=by
   refine BV.xh HV.out hgr ?_;rw[bD,List.length_append,List.length_singleton,hn0];exact hown'
  have hbl:Below B W (w1.setCell ⟨b,0,Yq⟩ (Yj A' (n0+1) c')):=dx (Below.refl B W) fk hgr (λg hg=>aB qJ.out g hg) HB.out;have hfr:∀k,w.1.size<=k->k<W.1.size->w1.1[k]?=W.1[k]?:=λk hk hk2=>hgr.block k hk2 (λe=>by have:=IV.out k e.symm;omega)
  have HE:=aa (And.intro iq (And.intro hbl hfr));clear iq hbl hfr hgr hgrow hown' hb4;go_wp2;go_end0;have ht:St.ch tx=[(1,tx,0)]:=by unfold St.ch;rw[if_neg (by intro e;rw[e]at gu;simp at gu;omega)]
  have eM:b8 rd mo ((w1.setCell ⟨b,0,Yq⟩ (Yj A' (n0+1) c')).setCell ⟨b,1,Yq⟩ (Yj Yq 0 0)) B b (ah++St.ch tx) [] cuts:=by
   rw[ht];exact⟨_,_,_,HE.out.1.Co⟩
  refine⟨rfl,eM,HE.out.2.1.setCell (p:=⟨b,1,Yq⟩) HB.out _,λk hk hk2=>?_⟩;rw[heap_setCell_other _ _ _ _ (by show k≠b;omega),heap_setCell_other _ _ _ _ (by show k≠b;omega)];exact HE.out.2.2 k hk hk2
end
section
variable {mo:List Value} {rd:TypeId} [vi rd]
theorem wi(t:List UInt8):(St.ch t).length<=1:=by rw[St.uN];split<;>omega
theorem lp(w:Ys)(B b:Nat)(ah:List St.It)(tx:List UInt8)(cuts:List Nat)(k i:Int)(s:ByteArray)(off:Nat)(h:b8 rd mo w B b ah tx cuts)(h1:ah.length<=600)(h2:cuts.length<=2000)(h3:tx.length<=2000)(hBw:B<=w.1.size) :
  Calls Tryz.prog 164 #[Yl (Yr ⟨b,0,Yq⟩),.agg #[Yh Yn k,Yi s,Yh Yn i],Yh Yn off] w λe w'=>
   e=Yp (Yk (!St.aU ah.length tx.length cuts.length false))/\(St.aU ah.length tx.length cuts.length false=false->b8 rd mo w' B b (ah++St.ch tx++[(k,s.1.1,i)]) [] (cuts++[off]))/\Below B w w':=by
 have huA:ac w (w.alloc (Yo #[Yh Yn k,Yi s,Yh Yn i] 36)):=uZ;have hf:=oV _ B b ah tx cuts false (h.ai huA) h1 h2;have hfl:=nK w _ B b ah tx cuts h huA h1 h3 hBw;have nY:=aa hfl;cases hb:St.aU ah.length tx.length cuts.length false
 ·rw[hb]at hf;have HF:=aa hf;clear hf hfl h;go_enter Tryz.func164,Tryz.ntmps164;go_wp2_with fail;refine HF.out.mono ?_;rintro e w' ⟨rfl,rfl⟩;go_wp2_with fail;refine nY.out.mono ?_;rintro e w2 ⟨rfl,⟨v0,v1,v2,hv⟩,hbl,hfr⟩;have oZ:w2.1[w.1.size]?=Yr (Yo #[Yh Yn k,Yi s,Yh Yn i] 36 (0,0)):=(hfr _ (Nat.le_refl _) (by simp)).trans (heap_alloc_new w _);have x0:w2.cell? ⟨w.1.size,0,Yq⟩=Yr (Yh Yn k):=aj oZ 0;have x1:w2.cell? ⟨w.1.size,1,Yq⟩=Yr (Yi s):=aj oZ 1;have x2:w2.cell? ⟨w.1.size,2,Yq⟩=Yr (Yh Yn i):=aj oZ 2;haveI:af w.1.size w2:=af.of (ae oZ);have HV:=aa hv;obtain⟨A0,c0,A1,c1,A2,c2,rfl,rfl,rfl⟩:=hv.cells;obtain⟨hB,hbk,ho0,dZ,fw⟩:=hv;have g0:w2.cell? ⟨b,0,Yq⟩=Yr (Yj A0 (ah++St.ch tx).length c0):=aj hbk 0;have kS:B<=w2.1.size:=Nat.le_trans (Nat.le_trans hBw huA.size) hbl.size;have df:=aa ((Below.refl B w).alloc hBw (Yo #[Yh Yn k,Yi s,Yh Yn i] 36) |>.trans hbl);have U4:(ah++St.ch tx).length<=601:=by have:=wi tx;simp;omega
  haveI:af b w2:=af.of (ae hbk);have qJ:=aa ho0;have HB:=aa hB;generalize hits:ah++St.ch tx=rW at *;obtain⟨i0,hi,hz0,hz1,hz2⟩:=info_parts dH;obtain⟨ii,ki,kz0,kz1,kz2⟩:=info_parts fO;generalize hn0:rW.length=n0 at *;generalize fe:cuts.length=n2 at *;clear hbk ho0 dZ fw hB hbl hfr oZ HF nY;go_wp2_with fail;go_region_law (refine cF rfl (.tmp 15) (.tmp 17) 37 rfl B 36 i0 (.agg #[.int .i64 0,.string ⟨#[]⟩,.int .i64 0]) 3 32 Tryz.underlying37 hi hz0 hz1 hz2 rfl (by decide) (.slice A0 n0 c0) n0 _ rfl (dV (qJ.out.alloc (.cells #[.int .i64 k,.string s,.int .i64 i] 36)) (ac.refl _).drew) ⟨w2.1.size,0,none⟩ 1 1 [.int .i64 k,.string s,.int .i64 i] rfl rfl (dW w2 _ _ _ 36 _ rfl) (cL k i _) (by unfold maxLen;omega) (by omega) (by simp;omega) ?_;intro v' w1 hown' hgrow _;have hgr:=aO (ac.gb (uZ:ac w2 (w2.alloc (.cells #[.int .i64 k,.string s,.int .i64 i] 36)).drew) (Value.slice A0 n0 c0).ownBlock) hgrow (λg e=>Or.inl e);have hb4:=HV.out.after hgr (Or.inl rfl);have e0:w1.cell? ⟨b,0,none⟩=some (.slice A0 n0 c0):=aj hb4 0;have f0:w1.frozen? ⟨b,0,none⟩=false:=bz hb4 0;haveI:af b w1:=af.of (ae hb4);obtain⟨A',c',rfl,_⟩:=aJ hown')
  all_goals
   have iq:BV rd mo (w1.setCell ⟨b,0,Yq⟩ (Yj A' (n0+1) c')) B b (Yj A' (n0+1) c') (Yj A1 ([]:List UInt8).length c1) (Yj A2 n2 c2) (rW++[(k,s.1.1,i)]) [] cuts:=by
    refine BV.xh HV.out hgr ?_;rw[bD,List.length_append,List.length_singleton,hn0];simp only[bn];exact hown'
   have lk:Below B w (w1.setCell ⟨b,0,Yq⟩ (Yj A' (n0+1) c')):=dx df.out kS hgr (λg hg=>aB qJ.out g hg) HB.out;have e2:w1.cell? ⟨b,2,Yq⟩=Yr (Yj A2 n2 c2):=aj hb4 2;have f2:w1.frozen? ⟨b,2,Yq⟩=false:=bz hb4 2;have lh:=aa iq;have oE:=aa lk;have jZ:=aa iq.2.2.2.2;have nV:B<=w1.1.size:=by have:=lk.size;simp at this;omega
   clear iq lk hb4 hown' hgrow hgr g0 x0 x1 x2 HV qJ df;go_wp2_with (at_builtin;refine wpList_append_own _ rfl _ _ 42 rfl B 3 ii (.int .i64 0) 1 8 Tryz.underlying42 ki kz0 kz1 kz2 rfl (by decide) (.slice A2 n2 c2) n2 _ rfl (by have:=jZ.out.alloc (.cells #[.int .i64 off] 3);rw[fe]at this;exact this) _ 1 1 [.int .i64 off] rfl rfl ?_ (by simp;rfl) (by unfold maxLen;omega) (by omega) ?_ ?_)
   ·exact ue _ _ _ _ (by simp)
   ·simp;omega
   intro v2' w6 hown2 hgrow2 _
   have oW:BV rd mo (w6.setCell ⟨b,2,Yq⟩ v2') B b (Yj A' (n0+1) c') (Yj A1 ([]:List UInt8).length c1) v2' (rW++[(k,s.1.1,i)]) [] (cuts++[off]):=by
    refine BV.xj (lh.out.ai ((ac.refl _).alloc _)) hgrow2 ?_;rw[dB,List.length_append,List.length_singleton,fe];exact hown2
   have oY:Below B w (w6.setCell ⟨b,2,Yq⟩ v2'):=dx (oE.out.alloc (by simp;omega) _) (by simp;omega) hgrow2 (λg hg=>aB jZ.out g hg) HB.out;have fT:=(lh.out.ai ((ac.refl _).alloc (Yo #[Yh Yn off] 3))).after hgrow2 (Or.inr (Or.inr rfl));obtain⟨PD,c2',rfl,_⟩:=aJ hown2;have d2:w6.cell? ⟨b,2,Yq⟩=Yr (Yj A2 n2 c2):=aj fT 2;have Qs:w6.frozen? ⟨b,2,Yq⟩=false:=bz fT 2;haveI:af b w6:=af.of (ae fT);have HE:=aa (And.intro (show b8 rd mo _ B b (rW++[(k,s.1.1,i)]) [] (cuts++[off])from⟨_,_,_,oW⟩) oY);clear oW oY fT hown2 hgrow2 e0 f0 e2 f2 lh oE;go_wp2;go_ret;subst hits;exact⟨rfl,λ_=>HE.out.1,HE.out.2⟩
 rw[hb]at hf;have HF:=aa hf;clear hf hfl nY;go_enter Tryz.func164,Tryz.ntmps164;go_wp2_with fail;refine HF.out.mono ?_;rintro e w' ⟨rfl,rfl⟩;go_wp2;go_ret;exact⟨rfl,(λh=>nomatch h),(Below.refl B w).alloc hBw _⟩
theorem pZ(w:Ys)(B b:Nat)(ah:List St.It)(tx:List UInt8)(cuts:List Nat)(h:b8 rd mo w B b ah tx cuts)(h1:ah.length<=600)(h3:tx.length<=2000)(hBw:B<=w.1.size) :
  Calls Tryz.prog 82 #[Yl (Yr ⟨b,0,Yq⟩)] w λe w'=>∃A c,e=Yp (Yj A (ah++St.ch tx).length c)/\aH w' A (ah++St.ch tx)/\(ah++St.ch tx).length<=c/\c<=9223372036854775807/\Below B w w':=by
 have nY:=aa (nK w w B b ah tx cuts h (ac.refl w) h1 h3 hBw);clear h;go_enter Tryz.func82,Tryz.ntmps82;go_wp2_with fail;refine nY.out.mono ?_;rintro e w2 ⟨rfl,⟨v0,v1,v2,hv⟩,hbl,_⟩;obtain⟨A0,c0,A1,c1,A2,c2,rfl,rfl,rfl⟩:=hv.cells;obtain⟨hB,hbk,ho0,dZ,fw⟩:=hv;have g0:w2.cell? ⟨b,0,Yq⟩=Yr (Yj A0 (ah++St.ch tx).length c0):=aj hbk 0;haveI:af b w2:=af.of (ae hbk);obtain⟨_,_,hq,hq1,hq2⟩:=aJ ho0;simp only[Value.slice.injEq]at hq;obtain⟨rfl,_,rfl⟩:=hq;have HE:=aa (And.intro (aW ho0 rfl) hbl);clear hbk ho0 dZ fw hB hbl nY;generalize JR:ah++St.ch tx=f at *;go_wp2;go_ret;subst JR;exact⟨_,_,rfl,HE.out.1,hq1,by unfold maxLen at hq2;omega,HE.out.2⟩
theorem pO(w:Ys)(B b:Nat)(ah:List St.It)(tx:List UInt8)(cuts:List Nat)(last:Nat)(h:b8 rd mo w B b ah tx cuts)(h2:cuts.length<=2000)(hBw:B<=w.1.size) :
  Calls Tryz.prog 112 #[Yl (Yr ⟨b,0,Yq⟩),Yh Yn last] w λe w'=>∃A c,e=Yp (Yj A (cuts.length+1) c)/\iJ w' A (cuts++[last])/\cuts.length+1<=c/\c<=9223372036854775807/\Below B w w':=by
 have Xx:=(inferInstance:vi rd);obtain⟨v0,v1,v2,hv⟩:=h;obtain⟨A0,c0,A1,c1,A2,c2,rfl,rfl,rfl⟩:=hv.cells;obtain⟨hB,hbk,ho0,dZ,fw⟩:=hv;have g2:w.cell? ⟨b,2,none⟩=some (.slice A2 cuts.length c2):=aj hbk 2;haveI:af b w:=af.of (ae hbk);obtain⟨ii,ki,kz0,kz1,kz2⟩:=info_parts fO;have jZ:=aa fw;clear hbk ho0 dZ fw hB;generalize fe:cuts.length=n2 at *;go_enter Tryz.func112,Tryz.ntmps112;go_wp2_with (at_builtin;refine wpList_append_own _ rfl _ _ 42 rfl B 3 ii (.int .i64 0) 1 8 Tryz.underlying42 ki kz0 kz1 kz2 rfl (by decide) (.slice A2 n2 c2) n2 _ rfl (jZ.out.alloc _) _ 1 1 [.int .i64 last] rfl rfl ?_ (by simp;rfl) (by unfold maxLen;omega) (by omega) ?_ ?_)
 ·exact gy _ _ _
 ·simp;omega
 intro v' w4 hown' hgrow _;obtain⟨A',c',rfl,hq1,hq2⟩:=aJ hown';have xA:iJ w4 A' (cuts++[last]):=vN (n:=n2+1) (by rw[dB];exact hown') (by simp[fe]);have hbl:Below B w w4:=((Below.refl B w).alloc hBw _).grown hgrow (by simp;omega) (λg hg=>aB jZ.out g hg);have HE:=aa (And.intro xA hbl);clear xA hbl hown' hgrow;go_wp2;go_ret;exact⟨_,_,rfl,HE.out.1,hq1,by unfold maxLen at hq2;omega,HE.out.2⟩
end
