/- The contracts of the codecs' builder: full, Byte, flush, Item, Items, Cuts. -/
import Derived.Test.YthoemdibbldndaaGreatDoorGA
set_option linter.all false
set_option maxHeartbeats 0
set_option maxRecDepth 20000
open Go.Value renaming int->Yp,string->Yq,slice->Yr,bool->Ys,pointer->Yt
open Go.IntKind renaming i64->Yv
open Go.Obj renaming cells->Yw
open Go.Ending renaming returned->Yx
open Option renaming none->Yy,some->Yz
open Go renaming World->YA
namespace Go.Proofs.YthoemdibbldndaaGreatDoor
open Go.RowKit
section
class vR (rd:TypeId):Prop where
 h:∀e∈[36,5,3],rd≠e
theorem mB{rd e:TypeId}[r:vR rd](h:e∈[36,5,3]):rd≠e:=r.h e h
variable {mo:List Value} {rd:TypeId}
def BV(rd:TypeId)(mo:List Value)(w:YA)(B b:Nat)(v0 v1 v2:Value)(ah:List St.It)(tx:List UInt8)(cuts:List Nat):Prop:=
 B<=b/\w.1[b]?=Yz (Yw ⟨v0 :: v1 :: v2 :: mo⟩ rd (0,0))/\w.ownsRow B 36 3 v0 ah.length (ak ah)/\w.ownsRow B 5 1 v1 tx.length (Lib.byteCells tx)/\w.ownsRow B 3 1 v2 cuts.length (fc cuts)
def ci(rd:TypeId)(mo:List Value)(w:YA)(B b:Nat)(ah:List St.It)(tx:List UInt8)(cuts:List Nat):Prop:=∃v0 v1 v2,BV rd mo w B b v0 v1 v2 ah tx cuts
theorem BV.ai{a c:YA}{B b:Nat}{v0 v1 v2:Value}{ah:List St.It}{tx:List UInt8}{cuts:List Nat}(h:BV rd mo a B b v0 v1 v2 ah tx cuts)(u:ac a c):BV rd mo c B b v0 v1 v2 ah tx cuts:=by
 obtain⟨h0,h1,h2,h3,h4⟩:=h;exact⟨h0,(u.below.block b (ae h1)).trans h1,aH u h2,aH u h3,aH u h4⟩
theorem ci.ai{a c:YA}{B b:Nat}{ah:List St.It}{tx:List UInt8}{cuts:List Nat}(h:ci rd mo a B b ah tx cuts)(u:ac a c):ci rd mo c B b ah tx cuts:=by
 obtain⟨v0,v1,v2,h⟩:=h;exact⟨v0,v1,v2,h.ai u⟩
theorem oZ(w:YA)(B b:Nat)(ah:List St.It)(tx:List UInt8)(cuts:List Nat)(t:Bool)(h:ci rd mo w B b ah tx cuts)(h1:ah.length<=600)(h2:cuts.length<=2000) :
  Calls Tryz.prog 190 #[Yt (Yz ⟨b,0,Yy⟩),Ys t] w λe w'=>e=Yx (Ys (St.aT ah.length tx.length cuts.length t))/\w=w':=by
 obtain⟨v0,v1,v2,_,hb,h3,h4,h5⟩:=h;obtain⟨A0,c0,rfl,_⟩:=aI h3;obtain⟨A1,c1,rfl,_⟩:=aI h4;obtain⟨A2,c2,rfl,_⟩:=aI h5;have g0:w.cell? ⟨b,0,Yy⟩=Yz (Yr A0 ah.length c0):=aj hb 0;have g1:w.cell? ⟨b,1,Yy⟩=Yz (Yr A1 tx.length c1):=aj hb 1;have g2:w.cell? ⟨b,2,Yy⟩=Yz (Yr A2 cuts.length c2):=aj hb 2;haveI:af b w:=af.of (ae hb);clear hb h3 h4 h5;unfold St.aT;generalize ah.length=n0 at *;generalize tx.length=n1 at *;generalize cuts.length=n2 at *;rcases Nat.eq_zero_or_pos n1 with z|z
 ·subst z;cases t<;>
  ·by_cases q1:512<n0+1<;>by_cases q2:1024<n2+1<;>
   ·have q1':=q1;have q2':=q2;go_enter Tryz.func190,Tryz.ntmps190;go_wp2;go_ret;exact⟨az (by simp<;>omega),rfl⟩
 have z':(0:Int)<(n1:Int):=by omega
 cases t
 ·by_cases q1:512<n0+1+1<;>by_cases q2:1024<n2+1<;>
  ·go_enter Tryz.func190,Tryz.ntmps190;go_wp2;go_ret;exact⟨az (by simp<;>omega),rfl⟩
 by_cases q1:512<n0+1<;>by_cases q2:1024<n2+1<;>
 ·go_enter Tryz.func190,Tryz.ntmps190;go_wp2;go_ret;exact⟨az (by simp<;>omega),rfl⟩
theorem BV.cells{w:YA}{B b:Nat}{v0 v1 v2:Value}{ah:List St.It}{tx:List UInt8}{cuts:List Nat}(h:BV rd mo w B b v0 v1 v2 ah tx cuts):∃A0 c0 A1 c1 A2 c2,v0=Yr A0 ah.length c0/\v1=Yr A1 tx.length c1/\v2=Yr A2 cuts.length c2:=by
 obtain⟨_,_,h2,h3,h4⟩:=h;obtain⟨A0,c0,e0,_⟩:=aI h2;obtain⟨A1,c1,e1,_⟩:=aI h3;obtain⟨A2,c2,e2,_⟩:=aI h4;exact⟨A0,c0,A1,c1,A2,c2,e0,e1,e2⟩
variable [vR rd]
theorem BV.Ia{w w4:YA}{B b:Nat}{v0 v1 v2 v':Value}{ah:List St.It}{tx jG:List UInt8}{cuts:List Nat}(h:BV rd mo w B b v0 v1 v2 ah tx cuts)(hg:w.grownBy w4 v1.ownBlock)(ho:w4.ownsRow B 5 1 v' jG.length (Lib.byteCells jG)) :
  BV rd mo (w4.setCell ⟨b,1,Yy⟩ v') B b v0 v' v2 ah jG cuts:=by
 obtain⟨h0,h1,h2,h3,h4⟩:=h;have hb4:w4.1[b]?=Yz (Yw ⟨v0 :: v1 :: v2 :: mo⟩ rd (0,0)):=(hg.block b (ae h1) (λe=>aS h3 h1 (mB (by decide)) e.symm)).trans h1;exact⟨h0,heap_setCell_same w4 b 1 _ _ v' hb4,aC (h2.kept hg (da h2 h3 (by decide))) (aS h2 h1 (mB (by decide))),aC ho (aS ho hb4 (mB (by decide))),aC (h4.kept hg (da h4 h3 (by decide))) (aS h4 h1 (mB (by decide)))⟩
theorem BV.xQ{w w4:YA}{B b:Nat}{v0 v1 v2 v':Value}{ah:List St.It}{tx:List UInt8}{cuts rU:List Nat}(h:BV rd mo w B b v0 v1 v2 ah tx cuts)(hg:w.grownBy w4 v2.ownBlock)(ho:w4.ownsRow B 3 1 v' rU.length (fc rU)) :
  BV rd mo (w4.setCell ⟨b,2,Yy⟩ v') B b v0 v1 v' ah tx rU:=by
 obtain⟨h0,h1,h2,h3,h4⟩:=h;have hb4:w4.1[b]?=Yz (Yw ⟨v0 :: v1 :: v2 :: mo⟩ rd (0,0)):=(hg.block b (ae h1) (λe=>aS h4 h1 (mB (by decide)) e.symm)).trans h1;exact⟨h0,heap_setCell_same w4 b 2 _ _ v' hb4,aC (h2.kept hg (da h2 h4 (by decide))) (aS h2 h1 (mB (by decide))),aC (h3.kept hg (da h3 h4 (by decide))) (aS h3 h1 (mB (by decide))),aC ho (aS ho hb4 (mB (by decide)))⟩
theorem BV.xP{w w4:YA}{B b:Nat}{v0 v1 v2 v':Value}{ah fI:List St.It}{tx:List UInt8}{cuts:List Nat}(h:BV rd mo w B b v0 v1 v2 ah tx cuts)(hg:w.grownBy w4 v0.ownBlock)(ho:w4.ownsRow B 36 3 v' fI.length (ak fI)) :
  BV rd mo (w4.setCell ⟨b,0,Yy⟩ v') B b v' v1 v2 fI tx cuts:=by
 obtain⟨h0,h1,h2,h3,h4⟩:=h;have hb4:w4.1[b]?=Yz (Yw ⟨v0 :: v1 :: v2 :: mo⟩ rd (0,0)):=(hg.block b (ae h1) (λe=>aS h2 h1 (mB (by decide)) e.symm)).trans h1;exact⟨h0,heap_setCell_same w4 b 0 _ _ v' hb4,aC ho (aS ho hb4 (mB (by decide))),aC (h3.kept hg (da h3 h2 (by decide))) (aS h3 h1 (mB (by decide))),aC (h4.kept hg (da h4 h2 (by decide))) (aS h4 h1 (mB (by decide)))⟩
theorem BV.C3{w:YA}{B b:Nat}{v0 v1 v2:Value}{ah:List St.It}{tx:List UInt8}{cuts:List Nat}(h:BV rd mo w B b v0 v1 v2 ah tx cuts):BV rd mo (w.setCell ⟨b,1,Yy⟩ (Yr Yy 0 0)) B b v0 (Yr Yy 0 0) v2 ah [] cuts:=by
 obtain⟨h0,h1,h2,h3,h4⟩:=h;exact⟨h0,heap_setCell_same w b 1 _ _ _ h1,aC h2 (aS h2 h1 (mB (by decide))),World.ownsRow_nil _ _ _ _,aC h4 (aS h4 h1 (mB (by decide)))⟩
end
section
variable {mo:List Value} {rd:TypeId} [vR rd]
theorem dz{B b i:Nat}{w w2 w4:YA}{row:Option Nat}{v:Value}(h:Below B w w2)(hBw:B<=w2.1.size)(hg:w2.grownBy w4 row)(hr:∀g,row=Yz g->B<=g)(hB:B<=b):Below B w (w4.setCell ⟨b,i,Yy⟩ v):=
 (h.grown hg hBw hr).setCell (p:=⟨b,i,Yy⟩) hB v
theorem oR(w:YA)(B b:Nat)(ah:List St.It)(tx:List UInt8)(cuts:List Nat)(c:UInt8)(off:Nat)(h:ci rd mo w B b ah tx cuts)(h1:ah.length<=600)(h2:cuts.length<=2000)(h3:tx.length<=2000)(hBw:B<=w.1.size) :
  Calls Tryz.prog 162 #[Yt (Yz ⟨b,0,Yy⟩),Yp .u8 c.toNat,Yp Yv off] w λe w'=>
   e=Yx (Ys (!St.aT ah.length tx.length cuts.length true))/\(St.aT ah.length tx.length cuts.length true=false->ci rd mo w' B b ah (tx++[c]) (cuts++[off]))/\Below B w w':=by
 have hf:=oZ w B b ah tx cuts true h h1 h2;cases hb:St.aT ah.length tx.length cuts.length true
 ·rw[hb]at hf;obtain⟨v0,v1,v2,hv⟩:=h;have HV:=aa hv;obtain⟨hB,hbk,ho0,ee,gg⟩:=hv;obtain⟨A1,c1,rfl,_⟩:=aI ee;obtain⟨A2,c2,rfl,_⟩:=aI gg;have g1:w.cell? ⟨b,1,none⟩=some (.slice A1 tx.length c1):=aj hbk 1;have g2:w.cell? ⟨b,2,none⟩=some (.slice A2 cuts.length c2):=aj hbk 2;have f1:w.frozen? ⟨b,1,none⟩=false:=bu hbk 1;have hlt:=ae hbk;haveI:af b w:=af.of hlt;obtain⟨i8,hi,hz0,hz1,hz2⟩:=info_parts qg;obtain⟨ii,ki,kz0,kz1,kz2⟩:=info_parts gQ;have HF:=aa hf;have nD:=aa ee;have HB:=aa hB;generalize jk:tx.length=n1 at *;generalize fD:cuts.length=n2 at *;clear hf hbk ho0 ee gg hB;go_enter Tryz.func162,Tryz.ntmps162;go_wp2_with fail;refine HF.out.mono ?_;rintro e w' ⟨rfl,rfl⟩;go_wp2_with (at_builtin;refine wpList_append_own _ rfl _ _ 22 rfl B 5 i8 (.int .u8 0) 1 1 Tryz.underlying22 hi hz0 hz1 hz2 rfl (by decide) (.slice A1 n1 c1) n1 _ rfl (nD.out.alloc _) _ 1 1 [.int .u8 c.toNat] rfl rfl ?_ (by simp;rfl) (by unfold maxLen;omega) (by omega) ?_ ?_)
  ·exact gS _ _ _
  ·simp;omega
  intro v' w4 hown' hgrow _
  have iB:BV rd mo (w4.setCell ⟨b,1,Yy⟩ v') B b v0 v' (Yr A2 n2 c2) ah (tx++[c]) cuts:=by
   refine BV.Ia (HV.out.ai ((ac.refl w).alloc _)) hgrow ?_;rw[xx,List.length_append,List.length_singleton,jk];exact hown'
  have lx:Below B w (w4.setCell ⟨b,1,Yy⟩ v'):=dz ((Below.refl B w).alloc hBw _) (by simp;omega) hgrow (λg hg=>aD nD.out g hg) HB.out
  have hb4:w4.1[b]?=Yz (Yw ⟨v0 :: Yr A1 n1 c1 :: Yr A2 n2 c2 :: mo⟩ rd (0,0)):=by
   obtain⟨q0,q1,_,q3,_⟩:=HV.out.ai ((ac.refl w).alloc (Yw #[Yp .u8 c.toNat] 5));exact(hgrow.block b (ae q1) (λe=>aS q3 q1 (mB (by decide)) e.symm)).trans q1
  obtain⟨Jq,c1',rfl,_⟩:=aI hown';have e1:w4.cell? ⟨b,1,Yy⟩=Yz (Yr A1 n1 c1):=aj hb4 1;have QU:w4.frozen? ⟨b,1,Yy⟩=false:=bu hb4 1;have e2:w4.cell? ⟨b,2,Yy⟩=Yz (Yr A2 n2 c2):=aj hb4 2;have QV:w4.frozen? ⟨b,2,Yy⟩=false:=bu hb4 2;haveI:af b w4:=af.of (ae hb4);have ls:=aa iB;have oI:=aa lx;have j4:=aa iB.2.2.2.2;have nW:B<=w4.1.size:=by have:=lx.size;simp at this;omega
  clear iB lx hb4 hown' hgrow g1 g2 f1;go_wp2_with (at_builtin;refine wpList_append_own _ rfl _ _ 42 rfl B 3 ii (.int .i64 0) 1 8 Tryz.underlying42 ki kz0 kz1 kz2 rfl (by decide) (.slice A2 n2 c2) n2 _ rfl (by have:=j4.out.alloc (.cells #[.int .i64 off] 3);rw[fD]at this;exact this) _ 1 1 [.int .i64 off] rfl rfl ?_ (by simp;rfl) (by unfold maxLen;omega) (by omega) ?_ ?_)
  ·exact uL _ _ _ _ (by simp)
  ·simp;omega
  intro v2' w6 hown2 hgrow2 _
  have o6:BV rd mo (w6.setCell ⟨b,2,Yy⟩ v2') B b v0 (Yr Jq (n1+1) c1') v2' ah (tx++[c]) (cuts++[off]):=by
   refine BV.xQ (ls.out.ai ((ac.refl _).alloc _)) hgrow2 ?_;rw[dF,List.length_append,List.length_singleton,fD];exact hown2
  have pa:Below B w (w6.setCell ⟨b,2,Yy⟩ v2'):=dz (oI.out.alloc (by simp;omega) _) (by simp;omega) hgrow2 (λg hg=>aD j4.out g hg) HB.out
  have fY:w6.1[b]?=Yz (Yw ⟨v0 :: Yr Jq (n1+1) c1' :: Yr A2 n2 c2 :: mo⟩ rd (0,0)):=by
   obtain⟨q0,q1,_,_,q4⟩:=ls.out.ai ((ac.refl _).alloc (Yw #[Yp Yv off] 3));exact(hgrow2.block b (ae q1) (λe=>aS q4 q1 (mB (by decide)) e.symm)).trans q1
  obtain⟨Qe,c2',rfl,_⟩:=aI hown2;have d2:w6.cell? ⟨b,2,Yy⟩=Yz (Yr A2 n2 c2):=aj fY 2;have QQ:w6.frozen? ⟨b,2,Yy⟩=false:=bu fY 2;haveI:af b w6:=af.of (ae fY);have HE:=aa (And.intro o6 pa);clear o6 pa fY hown2 hgrow2 e1 e2 QU QV ls oI;go_wp2;go_ret;exact⟨rfl,λ_=>⟨_,_,_,HE.out.1⟩,HE.out.2⟩
 rw[hb]at hf;have HF:=aa hf;clear hf h;go_enter Tryz.func162,Tryz.ntmps162;go_wp2_with fail;refine HF.out.mono ?_;rintro e w' ⟨rfl,rfl⟩;go_wp2;go_ret;exact⟨rfl,(λh=>nomatch h),Below.refl _ _⟩
theorem oT{w:YA}{B n c:Nat}{A:Option Addr}{l:List UInt8}(h:w.ownsRow B 5 1 (Yr A n c) n (Lib.byteCells l))(h0:0<n) :
  (convert 22 9 (Yr A n c)).run Tryz.prog w=.ok (Yq ⟨l.toArray⟩) w:=by
 have hl:l.length=n:=by have:=h.1;rw[Lib.byteCells_length]at this;simpa using this
 obtain⟨g,rfl,_,_,hc⟩:=eE h h0
 rw[run_convert_bytes_arg w 22 5 Tryz.underlying22 Tryz.underlying5 g 0 n c (l.map λx=>(x.toNat:Int)) (by simpa using hl) (λi hi=>by
  rw[Nat.zero_add];refine hc i _ ?_;have hil:i<l.length:=by omega
  simp[Lib.byteCells,List.getD_eq_getElem?_getD,hil]) _ Tryz.underlying9]
 simp[strOfNums,Function.comp_def]
theorem BV.after{w w1:YA}{B b:Nat}{v0 v1 v2:Value}{ah:List St.It}{tx:List UInt8}{cuts:List Nat}(h:BV rd mo w B b v0 v1 v2 ah tx cuts){row:Option Nat}(hg:w.grownBy w1 row)(hr:row=v0.ownBlock\/row=v1.ownBlock\/row=v2.ownBlock) :
  w1.1[b]?=Yz (Yw ⟨v0 :: v1 :: v2 :: mo⟩ rd (0,0)):=by
 obtain⟨_,h1,h2,h3,h4⟩:=h;refine(hg.block b (ae h1) (λe=>?_)).trans h1;rcases hr with rfl|rfl|rfl
 ·exact aS h2 h1 (mB (by decide)) e.symm
 ·exact aS h3 h1 (mB (by decide)) e.symm
 exact aS h4 h1 (mB (by decide)) e.symm
theorem nL(w W:YA)(B b:Nat)(ah:List St.It)(tx:List UInt8)(cuts:List Nat)(h:ci rd mo w B b ah tx cuts)(hu:ac w W)(h1:ah.length<=600)(h3:tx.length<=2000)(hBw:B<=w.1.size) :
  Calls Tryz.prog 121 #[Yt (Yz ⟨b,0,Yy⟩)] W λe w'=>
   e=Yx (.tuple #[])/\ci rd mo w' B b (ah++St.cm tx) [] cuts/\Below B W w'/\∀k,w.1.size<=k->k<W.1.size->w'.1[k]?=W.1[k]?:=by
 obtain⟨v0,v1,v2,hv⟩:=h;have Ww:=ae hv.2.1;have hol:∀g,v0.ownBlock=Yz g->g<w.1.size:=λg hg=>(hv.2.2.1.lt g hg).2
 replace hv:=hv.ai hu
 have fs:B<=W.1.size:=Nat.le_trans hBw hu.size;have HV:=aa hv;obtain⟨A0,c0,A1,c1,A2,c2,rfl,rfl,rfl⟩:=hv.cells;obtain⟨hB,hbk,ho0,ee,gg⟩:=hv;have g0:W.cell? ⟨b,0,Yy⟩=Yz (Yr A0 ah.length c0):=aj hbk 0;have g1:W.cell? ⟨b,1,Yy⟩=Yz (Yr A1 tx.length c1):=aj hbk 1;haveI:af b W:=af.of (ae hbk);have qU:=aa ho0;have nD:=aa ee;have HB:=aa hB;have JB:=aa hol;have Wv:=hu.size;rcases Nat.eq_zero_or_pos tx.length with z|z
 ·have htx:tx=[]:=List.eq_nil_of_length_eq_zero z;subst htx;clear ho0 ee gg hbk hB hol;go_enter Tryz.func121,Tryz.ntmps121;go_wp2;go_end0;exact⟨rfl,⟨_,_,_,by simpa[St.cm]using HV.out⟩,Below.refl _ _,λ_ _ _=>rfl⟩
 have z':(0:Int)<(tx.length:Int):=by omega
 have hcv:=oT ee z;have U8:(convert 22 9 (.slice A1 tx.length c1)).run Tryz.prog W.drew=.ok (.string ⟨tx.toArray⟩) W.drew:=oT (w:=W.drew) ee z;obtain⟨i0,hi,hz0,hz1,hz2⟩:=info_parts dM;have xV:ac W W.drew:=uZ;have Wa:=aa (HV.out.ai xV);generalize hn0:ah.length=n0 at *;generalize jk:tx.length=n1 at *;clear ho0 ee gg hbk hB hol hcv;go_enter Tryz.func121,Tryz.ntmps121;go_wp2_with fail;go_region_law (refine cM rfl (.tmp 12) (.tmp 19) 37 rfl B 36 i0 (.agg #[.int .i64 0,.string ⟨#[]⟩,.int .i64 0]) 3 32 Tryz.underlying37 hi hz0 hz1 hz2 rfl (by decide) (.slice A0 n0 c0) n0 _ rfl (dN (qU.out.alloc (.cells #[.int .i64 1,.string ⟨tx.toArray⟩,.int .i64 0] 36)) (ac.refl _).drew) ⟨W.1.size,0,none⟩ 1 1 [.int .i64 1,.string ⟨tx.toArray⟩,.int .i64 0] rfl rfl (eL W _ _ _ 36 _ rfl) (cX 1 0 _) (by unfold maxLen;omega) (by omega) (by simp;omega) ?_;intro v' w1 hown' hgrow _;have hgr:=aN (ac.gb (uZ:ac W (W.alloc (.cells #[.int .i64 1,.string ⟨tx.toArray⟩,.int .i64 0] 36)).drew) (Value.slice A0 n0 c0).ownBlock) hgrow (λg e=>Or.inl e);have hb4:=HV.out.after hgr (Or.inl rfl);have e0:w1.cell? ⟨b,0,none⟩=some (.slice A0 n0 c0):=aj hb4 0;have e1:w1.cell? ⟨b,1,none⟩=some (.slice A1 n1 c1):=aj hb4 1;have f0:w1.frozen? ⟨b,0,none⟩=false:=bu hb4 0;have f1:w1.frozen? ⟨b,1,none⟩=false:=bu hb4 1;haveI:af b w1:=af.of (ae hb4);obtain⟨A',c',rfl,_⟩:=aI hown')
 all_goals
  have iB:BV rd mo (w1.setCell ⟨b,0,Yy⟩ (Yr A' (n0+1) c')) B b (Yr A' (n0+1) c') (Yr A1 n1 c1) (Yr A2 cuts.length c2) (ah++[(1,tx,0)]) tx cuts:=by
   refine BV.xP HV.out hgr ?_;rw[bM,List.length_append,List.length_singleton,hn0];exact hown'
  have hbl:Below B W (w1.setCell ⟨b,0,Yy⟩ (Yr A' (n0+1) c')):=dz (Below.refl B W) fs hgr (λg hg=>aD qU.out g hg) HB.out;have hfr:∀k,w.1.size<=k->k<W.1.size->w1.1[k]?=W.1[k]?:=λk hk hk2=>hgr.block k hk2 (λe=>by have:=JB.out k e.symm;omega)
  have HE:=aa (And.intro iB (And.intro hbl hfr));clear iB hbl hfr hgr hgrow hown' hb4;go_wp2;go_end0;have ht:St.cm tx=[(1,tx,0)]:=by unfold St.cm;rw[if_neg (by intro e;rw[e]at jk;simp at jk;omega)]
  have eT:ci rd mo ((w1.setCell ⟨b,0,Yy⟩ (Yr A' (n0+1) c')).setCell ⟨b,1,Yy⟩ (Yr Yy 0 0)) B b (ah++St.cm tx) [] cuts:=by
   rw[ht];exact⟨_,_,_,HE.out.1.C3⟩
  refine⟨rfl,eT,HE.out.2.1.setCell (p:=⟨b,1,Yy⟩) HB.out _,λk hk hk2=>?_⟩;rw[heap_setCell_other _ _ _ _ (by show k≠b;omega),heap_setCell_other _ _ _ _ (by show k≠b;omega)];exact HE.out.2.2 k hk hk2
end
section
variable {mo:List Value} {rd:TypeId} [vR rd]
theorem wT(t:List UInt8):(St.cm t).length<=1:=by rw[St.vk];split<;>omega
theorem lA(w:YA)(B b:Nat)(ah:List St.It)(tx:List UInt8)(cuts:List Nat)(k i:Int)(s:ByteArray)(off:Nat)(h:ci rd mo w B b ah tx cuts)(h1:ah.length<=600)(h2:cuts.length<=2000)(h3:tx.length<=2000)(hBw:B<=w.1.size) :
  Calls Tryz.prog 164 #[Yt (Yz ⟨b,0,Yy⟩),.agg #[Yp Yv k,Yq s,Yp Yv i],Yp Yv off] w λe w'=>
   e=Yx (Ys (!St.aT ah.length tx.length cuts.length false))/\(St.aT ah.length tx.length cuts.length false=false->ci rd mo w' B b (ah++St.cm tx++[(k,s.1.1,i)]) [] (cuts++[off]))/\Below B w w':=by
 have huA:ac w (w.alloc (Yw #[Yp Yv k,Yq s,Yp Yv i] 36)):=uZ;have hf:=oZ _ B b ah tx cuts false (h.ai huA) h1 h2;have hfl:=nL w _ B b ah tx cuts h huA h1 h3 hBw;have nZ:=aa hfl;cases hb:St.aT ah.length tx.length cuts.length false
 ·rw[hb]at hf;have HF:=aa hf;clear hf hfl h;go_enter Tryz.func164,Tryz.ntmps164;go_wp2_with fail;refine HF.out.mono ?_;rintro e w' ⟨rfl,rfl⟩;go_wp2_with fail;refine nZ.out.mono ?_;rintro e w2 ⟨rfl,⟨v0,v1,v2,hv⟩,hbl,hfr⟩;have pc:w2.1[w.1.size]?=Yz (Yw #[Yp Yv k,Yq s,Yp Yv i] 36 (0,0)):=(hfr _ (Nat.le_refl _) (by simp)).trans (heap_alloc_new w _);have x0:w2.cell? ⟨w.1.size,0,Yy⟩=Yz (Yp Yv k):=aj pc 0;have x1:w2.cell? ⟨w.1.size,1,Yy⟩=Yz (Yq s):=aj pc 1;have x2:w2.cell? ⟨w.1.size,2,Yy⟩=Yz (Yp Yv i):=aj pc 2;haveI:af w.1.size w2:=af.of (ae pc);have HV:=aa hv;obtain⟨A0,c0,A1,c1,A2,c2,rfl,rfl,rfl⟩:=hv.cells;obtain⟨hB,hbk,ho0,ee,gg⟩:=hv;have g0:w2.cell? ⟨b,0,Yy⟩=Yz (Yr A0 (ah++St.cm tx).length c0):=aj hbk 0;have la:B<=w2.1.size:=Nat.le_trans (Nat.le_trans hBw huA.size) hbl.size;have dd:=aa ((Below.refl B w).alloc hBw (Yw #[Yp Yv k,Yq s,Yp Yv i] 36) |>.trans hbl);have Ve:(ah++St.cm tx).length<=601:=by have:=wT tx;simp;omega
  haveI:af b w2:=af.of (ae hbk);have qU:=aa ho0;have HB:=aa hB;generalize hits:ah++St.cm tx=sh at *;obtain⟨i0,hi,hz0,hz1,hz2⟩:=info_parts dM;obtain⟨ii,ki,kz0,kz1,kz2⟩:=info_parts gQ;generalize hn0:sh.length=n0 at *;generalize fD:cuts.length=n2 at *;clear hbk ho0 ee gg hB hbl hfr pc HF nZ;go_wp2_with fail;go_region_law (refine cM rfl (.tmp 15) (.tmp 17) 37 rfl B 36 i0 (.agg #[.int .i64 0,.string ⟨#[]⟩,.int .i64 0]) 3 32 Tryz.underlying37 hi hz0 hz1 hz2 rfl (by decide) (.slice A0 n0 c0) n0 _ rfl (dN (qU.out.alloc (.cells #[.int .i64 k,.string s,.int .i64 i] 36)) (ac.refl _).drew) ⟨w2.1.size,0,none⟩ 1 1 [.int .i64 k,.string s,.int .i64 i] rfl rfl (eL w2 _ _ _ 36 _ rfl) (cX k i _) (by unfold maxLen;omega) (by omega) (by simp;omega) ?_;intro v' w1 hown' hgrow _;have hgr:=aN (ac.gb (uZ:ac w2 (w2.alloc (.cells #[.int .i64 k,.string s,.int .i64 i] 36)).drew) (Value.slice A0 n0 c0).ownBlock) hgrow (λg e=>Or.inl e);have hb4:=HV.out.after hgr (Or.inl rfl);have e0:w1.cell? ⟨b,0,none⟩=some (.slice A0 n0 c0):=aj hb4 0;have f0:w1.frozen? ⟨b,0,none⟩=false:=bu hb4 0;haveI:af b w1:=af.of (ae hb4);obtain⟨A',c',rfl,_⟩:=aI hown')
  all_goals
   have iB:BV rd mo (w1.setCell ⟨b,0,Yy⟩ (Yr A' (n0+1) c')) B b (Yr A' (n0+1) c') (Yr A1 ([]:List UInt8).length c1) (Yr A2 n2 c2) (sh++[(k,s.1.1,i)]) [] cuts:=by
    refine BV.xP HV.out hgr ?_;rw[bM,List.length_append,List.length_singleton,hn0];simp only[bo];exact hown'
   have lx:Below B w (w1.setCell ⟨b,0,Yy⟩ (Yr A' (n0+1) c')):=dz dd.out la hgr (λg hg=>aD qU.out g hg) HB.out;have e2:w1.cell? ⟨b,2,Yy⟩=Yz (Yr A2 n2 c2):=aj hb4 2;have f2:w1.frozen? ⟨b,2,Yy⟩=false:=bu hb4 2;have ls:=aa iB;have oI:=aa lx;have j4:=aa iB.2.2.2.2;have nW:B<=w1.1.size:=by have:=lx.size;simp at this;omega
   clear iB lx hb4 hown' hgrow hgr g0 x0 x1 x2 HV qU dd;go_wp2_with (at_builtin;refine wpList_append_own _ rfl _ _ 42 rfl B 3 ii (.int .i64 0) 1 8 Tryz.underlying42 ki kz0 kz1 kz2 rfl (by decide) (.slice A2 n2 c2) n2 _ rfl (by have:=j4.out.alloc (.cells #[.int .i64 off] 3);rw[fD]at this;exact this) _ 1 1 [.int .i64 off] rfl rfl ?_ (by simp;rfl) (by unfold maxLen;omega) (by omega) ?_ ?_)
   ·exact uL _ _ _ _ (by simp)
   ·simp;omega
   intro v2' w6 hown2 hgrow2 _
   have o6:BV rd mo (w6.setCell ⟨b,2,Yy⟩ v2') B b (Yr A' (n0+1) c') (Yr A1 ([]:List UInt8).length c1) v2' (sh++[(k,s.1.1,i)]) [] (cuts++[off]):=by
    refine BV.xQ (ls.out.ai ((ac.refl _).alloc _)) hgrow2 ?_;rw[dF,List.length_append,List.length_singleton,fD];exact hown2
   have pa:Below B w (w6.setCell ⟨b,2,Yy⟩ v2'):=dz (oI.out.alloc (by simp;omega) _) (by simp;omega) hgrow2 (λg hg=>aD j4.out g hg) HB.out;have fY:=(ls.out.ai ((ac.refl _).alloc (Yw #[Yp Yv off] 3))).after hgrow2 (Or.inr (Or.inr rfl));obtain⟨Qe,c2',rfl,_⟩:=aI hown2;have d2:w6.cell? ⟨b,2,Yy⟩=Yz (Yr A2 n2 c2):=aj fY 2;have QQ:w6.frozen? ⟨b,2,Yy⟩=false:=bu fY 2;haveI:af b w6:=af.of (ae fY);have HE:=aa (And.intro (show ci rd mo _ B b (sh++[(k,s.1.1,i)]) [] (cuts++[off])from⟨_,_,_,o6⟩) pa);clear o6 pa fY hown2 hgrow2 e0 f0 e2 f2 ls oI;go_wp2;go_ret;subst hits;exact⟨rfl,λ_=>HE.out.1,HE.out.2⟩
 rw[hb]at hf;have HF:=aa hf;clear hf hfl nZ;go_enter Tryz.func164,Tryz.ntmps164;go_wp2_with fail;refine HF.out.mono ?_;rintro e w' ⟨rfl,rfl⟩;go_wp2;go_ret;exact⟨rfl,(λh=>nomatch h),(Below.refl B w).alloc hBw _⟩
theorem qi(w:YA)(B b:Nat)(ah:List St.It)(tx:List UInt8)(cuts:List Nat)(h:ci rd mo w B b ah tx cuts)(h1:ah.length<=600)(h3:tx.length<=2000)(hBw:B<=w.1.size) :
  Calls Tryz.prog 82 #[Yt (Yz ⟨b,0,Yy⟩)] w λe w'=>∃A c,e=Yx (Yr A (ah++St.cm tx).length c)/\aJ w' A (ah++St.cm tx)/\(ah++St.cm tx).length<=c/\c<=9223372036854775807/\Below B w w':=by
 have nZ:=aa (nL w w B b ah tx cuts h (ac.refl w) h1 h3 hBw);clear h;go_enter Tryz.func82,Tryz.ntmps82;go_wp2_with fail;refine nZ.out.mono ?_;rintro e w2 ⟨rfl,⟨v0,v1,v2,hv⟩,hbl,_⟩;obtain⟨A0,c0,A1,c1,A2,c2,rfl,rfl,rfl⟩:=hv.cells;obtain⟨hB,hbk,ho0,ee,gg⟩:=hv;have g0:w2.cell? ⟨b,0,Yy⟩=Yz (Yr A0 (ah++St.cm tx).length c0):=aj hbk 0;haveI:af b w2:=af.of (ae hbk);obtain⟨_,_,hq,hq1,hq2⟩:=aI ho0;simp only[Value.slice.injEq]at hq;obtain⟨rfl,_,rfl⟩:=hq;have HE:=aa (And.intro (a7 ho0 rfl) hbl);clear hbk ho0 ee gg hB hbl nZ;generalize DA:ah++St.cm tx=f at *;go_wp2;go_ret;subst DA;exact⟨_,_,rfl,HE.out.1,hq1,by unfold maxLen at hq2;omega,HE.out.2⟩
theorem pV(w:YA)(B b:Nat)(ah:List St.It)(tx:List UInt8)(cuts:List Nat)(last:Nat)(h:ci rd mo w B b ah tx cuts)(h2:cuts.length<=2000)(hBw:B<=w.1.size) :
  Calls Tryz.prog 112 #[Yt (Yz ⟨b,0,Yy⟩),Yp Yv last] w λe w'=>∃A c,e=Yx (Yr A (cuts.length+1) c)/\iP w' A (cuts++[last])/\cuts.length+1<=c/\c<=9223372036854775807/\Below B w w':=by
 have XD:=(inferInstance:vR rd);obtain⟨v0,v1,v2,hv⟩:=h;obtain⟨A0,c0,A1,c1,A2,c2,rfl,rfl,rfl⟩:=hv.cells;obtain⟨hB,hbk,ho0,ee,gg⟩:=hv;have g2:w.cell? ⟨b,2,none⟩=some (.slice A2 cuts.length c2):=aj hbk 2;haveI:af b w:=af.of (ae hbk);obtain⟨ii,ki,kz0,kz1,kz2⟩:=info_parts gQ;have j4:=aa gg;clear hbk ho0 ee gg hB;generalize fD:cuts.length=n2 at *;go_enter Tryz.func112,Tryz.ntmps112;go_wp2_with (at_builtin;refine wpList_append_own _ rfl _ _ 42 rfl B 3 ii (.int .i64 0) 1 8 Tryz.underlying42 ki kz0 kz1 kz2 rfl (by decide) (.slice A2 n2 c2) n2 _ rfl (j4.out.alloc _) _ 1 1 [.int .i64 last] rfl rfl ?_ (by simp;rfl) (by unfold maxLen;omega) (by omega) ?_ ?_)
 ·exact gS _ _ _
 ·simp;omega
 intro v' w4 hown' hgrow _;obtain⟨A',c',rfl,hq1,hq2⟩:=aI hown';have x6:iP w4 A' (cuts++[last]):=wG (n:=n2+1) (by rw[dF];exact hown') (by simp[fD]);have hbl:Below B w w4:=((Below.refl B w).alloc hBw _).grown hgrow (by simp;omega) (λg hg=>aD j4.out g hg);have HE:=aa (And.intro x6 hbl);clear x6 hbl hown' hgrow;go_wp2;go_ret;exact⟨_,_,rfl,HE.out.1,hq1,by unfold maxLen at hq2;omega,HE.out.2⟩
end
