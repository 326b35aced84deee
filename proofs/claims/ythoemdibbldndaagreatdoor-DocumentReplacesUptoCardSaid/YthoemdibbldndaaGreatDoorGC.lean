/- The contracts of the codecs' builder: full, Byte, flush, Item, Items, Cuts. -/
import Derived.Test.YthoemdibbldndaaGreatDoorGA
set_option linter.all false
set_option maxHeartbeats 0
set_option maxRecDepth 20000
open Go.Value renaming int->VD,string->VE,slice->VF,bool->VG,pointer->VH
open Go.IntKind renaming i64->VJ
open Go.Obj renaming cells->VK
open Go.Ending renaming returned->VL
open Option renaming none->VM,some->VN
open Go renaming World->VO
namespace Go.Proofs.YthoemdibbldndaaGreatDoor
open Go.RowKit
section
class ue (rd:TypeId):Prop where
 h:∀e∈[36,5,3],rd≠e
theorem lB{rd e:TypeId}[r:ue rd](h:e∈[36,5,3]):rd≠e:=r.h e h
variable {mo:List Value} {rd:TypeId}
def BV(rd:TypeId)(mo:List Value)(w:VO)(B b:Nat)(v0 v1 v2:Value)(its:List St.It)(tx:List UInt8)(cuts:List Nat):Prop:=
 B<=b/\w.1[b]?=VN (VK ⟨v0 :: v1 :: v2 :: mo⟩ rd (0,0))/\w.ownsRow B 36 3 v0 its.length (av its)/\w.ownsRow B 5 1 v1 tx.length (Lib.byteCells tx)/\w.ownsRow B 3 1 v2 cuts.length (eJ cuts)
def b7(rd:TypeId)(mo:List Value)(w:VO)(B b:Nat)(its:List St.It)(tx:List UInt8)(cuts:List Nat):Prop:=∃v0 v1 v2,BV rd mo w B b v0 v1 v2 its tx cuts
theorem BV.ah{a c:VO}{B b:Nat}{v0 v1 v2:Value}{its:List St.It}{tx:List UInt8}{cuts:List Nat}(h:BV rd mo a B b v0 v1 v2 its tx cuts)(u:ac a c):BV rd mo c B b v0 v1 v2 its tx cuts:=by
 obtain⟨h0,h1,h2,h3,h4⟩:=h;exact⟨h0,(u.below.block b (ae h1)).trans h1,aA u h2,aA u h3,aA u h4⟩
theorem b7.ah{a c:VO}{B b:Nat}{its:List St.It}{tx:List UInt8}{cuts:List Nat}(h:b7 rd mo a B b its tx cuts)(u:ac a c):b7 rd mo c B b its tx cuts:=by
 obtain⟨v0,v1,v2,h⟩:=h;exact⟨v0,v1,v2,h.ah u⟩
theorem nY(w:VO)(B b:Nat)(its:List St.It)(tx:List UInt8)(cuts:List Nat)(t:Bool)(h:b7 rd mo w B b its tx cuts)(h1:its.length<=600)(h2:cuts.length<=2000) :
  Calls Tryz.prog 190 #[VH (VN ⟨b,0,VM⟩),VG t] w λe w'=>e=VL (VG (St.aT its.length tx.length cuts.length t))/\w=w':=by
 obtain⟨v0,v1,v2,_,hb,h3,h4,h5⟩:=h;obtain⟨A0,c0,rfl,_⟩:=aC h3;obtain⟨A1,c1,rfl,_⟩:=aC h4;obtain⟨A2,c2,rfl,_⟩:=aC h5;have g0:w.cell? ⟨b,0,VM⟩=VN (VF A0 its.length c0):=ai hb 0;have g1:w.cell? ⟨b,1,VM⟩=VN (VF A1 tx.length c1):=ai hb 1;have g2:w.cell? ⟨b,2,VM⟩=VN (VF A2 cuts.length c2):=ai hb 2;haveI:af b w:=af.of (ae hb);clear hb h3 h4 h5;unfold St.aT;generalize its.length=n0 at *;generalize tx.length=n1 at *;generalize cuts.length=n2 at *;rcases Nat.eq_zero_or_pos n1 with z|z
 ·subst z;cases t<;>
  ·by_cases q1:512<n0+1<;>by_cases q2:1024<n2+1<;>
   ·have q1':=q1;have q2':=q2;go_enter Tryz.func190,Tryz.ntmps190;go_wp2;go_ret;exact⟨ay (by simp<;>omega),rfl⟩
 have z':(0:Int)<(n1:Int):=by omega
 cases t
 ·by_cases q1:512<n0+1+1<;>by_cases q2:1024<n2+1<;>
  ·go_enter Tryz.func190,Tryz.ntmps190;go_wp2;go_ret;exact⟨ay (by simp<;>omega),rfl⟩
 by_cases q1:512<n0+1<;>by_cases q2:1024<n2+1<;>
 ·go_enter Tryz.func190,Tryz.ntmps190;go_wp2;go_ret;exact⟨ay (by simp<;>omega),rfl⟩
theorem BV.cells{w:VO}{B b:Nat}{v0 v1 v2:Value}{its:List St.It}{tx:List UInt8}{cuts:List Nat}(h:BV rd mo w B b v0 v1 v2 its tx cuts):∃A0 c0 A1 c1 A2 c2,v0=VF A0 its.length c0/\v1=VF A1 tx.length c1/\v2=VF A2 cuts.length c2:=by
 obtain⟨_,_,h2,h3,h4⟩:=h;obtain⟨A0,c0,e0,_⟩:=aC h2;obtain⟨A1,c1,e1,_⟩:=aC h3;obtain⟨A2,c2,e2,_⟩:=aC h4;exact⟨A0,c0,A1,c1,A2,c2,e0,e1,e2⟩
variable [ue rd]
theorem BV.Eg{w w4:VO}{B b:Nat}{v0 v1 v2 v':Value}{its:List St.It}{tx ja:List UInt8}{cuts:List Nat}(h:BV rd mo w B b v0 v1 v2 its tx cuts)(hg:w.grownBy w4 v1.ownBlock)(ho:w4.ownsRow B 5 1 v' ja.length (Lib.byteCells ja)) :
  BV rd mo (w4.setCell ⟨b,1,VM⟩ v') B b v0 v' v2 its ja cuts:=by
 obtain⟨h0,h1,h2,h3,h4⟩:=h;have hb4:w4.1[b]?=VN (VK ⟨v0 :: v1 :: v2 :: mo⟩ rd (0,0)):=(hg.block b (ae h1) (λe=>aQ h3 h1 (lB (by decide)) e.symm)).trans h1;exact⟨h0,heap_setCell_same w4 b 1 _ _ v' hb4,aF (h2.kept hg (cR h2 h3 (by decide))) (aQ h2 h1 (lB (by decide))),aF ho (aQ ho hb4 (lB (by decide))),aF (h4.kept hg (cR h4 h3 (by decide))) (aQ h4 h1 (lB (by decide)))⟩
theorem BV.vw{w w4:VO}{B b:Nat}{v0 v1 v2 v':Value}{its:List St.It}{tx:List UInt8}{cuts qo:List Nat}(h:BV rd mo w B b v0 v1 v2 its tx cuts)(hg:w.grownBy w4 v2.ownBlock)(ho:w4.ownsRow B 3 1 v' qo.length (eJ qo)) :
  BV rd mo (w4.setCell ⟨b,2,VM⟩ v') B b v0 v1 v' its tx qo:=by
 obtain⟨h0,h1,h2,h3,h4⟩:=h;have hb4:w4.1[b]?=VN (VK ⟨v0 :: v1 :: v2 :: mo⟩ rd (0,0)):=(hg.block b (ae h1) (λe=>aQ h4 h1 (lB (by decide)) e.symm)).trans h1;exact⟨h0,heap_setCell_same w4 b 2 _ _ v' hb4,aF (h2.kept hg (cR h2 h4 (by decide))) (aQ h2 h1 (lB (by decide))),aF (h3.kept hg (cR h3 h4 (by decide))) (aQ h3 h1 (lB (by decide))),aF ho (aQ ho hb4 (lB (by decide)))⟩
theorem BV.vu{w w4:VO}{B b:Nat}{v0 v1 v2 v':Value}{its fy:List St.It}{tx:List UInt8}{cuts:List Nat}(h:BV rd mo w B b v0 v1 v2 its tx cuts)(hg:w.grownBy w4 v0.ownBlock)(ho:w4.ownsRow B 36 3 v' fy.length (av fy)) :
  BV rd mo (w4.setCell ⟨b,0,VM⟩ v') B b v' v1 v2 fy tx cuts:=by
 obtain⟨h0,h1,h2,h3,h4⟩:=h;have hb4:w4.1[b]?=VN (VK ⟨v0 :: v1 :: v2 :: mo⟩ rd (0,0)):=(hg.block b (ae h1) (λe=>aQ h2 h1 (lB (by decide)) e.symm)).trans h1;exact⟨h0,heap_setCell_same w4 b 0 _ _ v' hb4,aF ho (aQ ho hb4 (lB (by decide))),aF (h3.kept hg (cR h3 h2 (by decide))) (aQ h3 h1 (lB (by decide))),aF (h4.kept hg (cR h4 h2 (by decide))) (aQ h4 h1 (lB (by decide)))⟩
theorem BV.Ae{w:VO}{B b:Nat}{v0 v1 v2:Value}{its:List St.It}{tx:List UInt8}{cuts:List Nat}(h:BV rd mo w B b v0 v1 v2 its tx cuts):BV rd mo (w.setCell ⟨b,1,VM⟩ (VF VM 0 0)) B b v0 (VF VM 0 0) v2 its [] cuts:=by
 obtain⟨h0,h1,h2,h3,h4⟩:=h;exact⟨h0,heap_setCell_same w b 1 _ _ _ h1,aF h2 (aQ h2 h1 (lB (by decide))),World.ownsRow_nil _ _ _ _,aF h4 (aQ h4 h1 (lB (by decide)))⟩
end
section
variable {mo:List Value} {rd:TypeId} [ue rd]
theorem dn{B b i:Nat}{w w2 w4:VO}{row:Option Nat}{v:Value}(h:Below B w w2)(hBw:B<=w2.1.size)(hg:w2.grownBy w4 row)(hr:∀g,row=VN g->B<=g)(hB:B<=b):Below B w (w4.setCell ⟨b,i,VM⟩ v):=
 (h.grown hg hBw hr).setCell (p:=⟨b,i,VM⟩) hB v
theorem nP(w:VO)(B b:Nat)(its:List St.It)(tx:List UInt8)(cuts:List Nat)(c:UInt8)(off:Nat)(h:b7 rd mo w B b its tx cuts)(h1:its.length<=600)(h2:cuts.length<=2000)(h3:tx.length<=2000)(hBw:B<=w.1.size) :
  Calls Tryz.prog 162 #[VH (VN ⟨b,0,VM⟩),VD .u8 c.toNat,VD VJ off] w λe w'=>
   e=VL (VG (!St.aT its.length tx.length cuts.length true))/\(St.aT its.length tx.length cuts.length true=false->b7 rd mo w' B b its (tx++[c]) (cuts++[off]))/\Below B w w':=by
 have hf:=nY w B b its tx cuts true h h1 h2;cases hb:St.aT its.length tx.length cuts.length true
 ·rw[hb]at hf;obtain⟨v0,v1,v2,hv⟩:=h;have HV:=aa hv;obtain⟨hB,hbk,ho0,ej,fk⟩:=hv;obtain⟨A1,c1,rfl,_⟩:=aC ej;obtain⟨A2,c2,rfl,_⟩:=aC fk;have g1:w.cell? ⟨b,1,none⟩=some (.slice A1 tx.length c1):=ai hbk 1;have g2:w.cell? ⟨b,2,none⟩=some (.slice A2 cuts.length c2):=ai hbk 2;have f1:w.frozen? ⟨b,1,none⟩=false:=bg hbk 1;have hlt:=ae hbk;haveI:af b w:=af.of hlt;obtain⟨i8,hi,hz0,hz1,hz2⟩:=info_parts oW;obtain⟨ii,ki,kz0,kz1,kz2⟩:=info_parts fJ;have HF:=aa hf;have my:=aa ej;have HB:=aa hB;generalize fZ:tx.length=n1 at *;generalize eV:cuts.length=n2 at *;clear hf hbk ho0 ej fk hB;go_enter Tryz.func162,Tryz.ntmps162;go_wp2_with fail;refine HF.out.mono ?_;rintro e w' ⟨rfl,rfl⟩;go_wp2_with (at_builtin;refine wpList_append_own _ rfl _ _ 22 rfl B 5 i8 (.int .u8 0) 1 1 Tryz.underlying22 hi hz0 hz1 hz2 rfl (by decide) (.slice A1 n1 c1) n1 _ rfl (my.out.alloc _) _ 1 1 [.int .u8 c.toNat] rfl rfl ?_ (by simp;rfl) (by unfold maxLen;omega) (by omega) ?_ ?_)
  ·exact fF _ _ _
  ·simp;omega
  intro v' w4 hown' hgrow _
  have ie:BV rd mo (w4.setCell ⟨b,1,VM⟩ v') B b v0 v' (VF A2 n2 c2) its (tx++[c]) cuts:=by
   refine BV.Eg (HV.out.ah ((ac.refl w).alloc _)) hgrow ?_;rw[vh,List.length_append,List.length_singleton,fZ];exact hown'
  have kx:Below B w (w4.setCell ⟨b,1,VM⟩ v'):=dn ((Below.refl B w).alloc hBw _) (by simp;omega) hgrow (λg hg=>ax my.out g hg) HB.out
  have hb4:w4.1[b]?=VN (VK ⟨v0 :: VF A1 n1 c1 :: VF A2 n2 c2 :: mo⟩ rd (0,0)):=by
   obtain⟨q0,q1,_,q3,_⟩:=HV.out.ah ((ac.refl w).alloc (VK #[VD .u8 c.toNat] 5));exact(hgrow.block b (ae q1) (λe=>aQ q3 q1 (lB (by decide)) e.symm)).trans q1
  obtain⟨Fv,c1',rfl,_⟩:=aC hown';have e1:w4.cell? ⟨b,1,VM⟩=VN (VF A1 n1 c1):=ai hb4 1;have Ny:w4.frozen? ⟨b,1,VM⟩=false:=bg hb4 1;have e2:w4.cell? ⟨b,2,VM⟩=VN (VF A2 n2 c2):=ai hb4 2;have Nz:w4.frozen? ⟨b,2,VM⟩=false:=bg hb4 2;haveI:af b w4:=af.of (ae hb4);have ku:=aa ie;have nF:=aa kx;have jv:=aa ie.2.2.2.2;have mN:B<=w4.1.size:=by have:=kx.size;simp at this;omega
  clear ie kx hb4 hown' hgrow g1 g2 f1;go_wp2_with (at_builtin;refine wpList_append_own _ rfl _ _ 42 rfl B 3 ii (.int .i64 0) 1 8 Tryz.underlying42 ki kz0 kz1 kz2 rfl (by decide) (.slice A2 n2 c2) n2 _ rfl (by have:=jv.out.alloc (.cells #[.int .i64 off] 3);rw[eV]at this;exact this) _ 1 1 [.int .i64 off] rfl rfl ?_ (by simp;rfl) (by unfold maxLen;omega) (by omega) ?_ ?_)
  ·exact sN _ _ _ _ (by simp)
  ·simp;omega
  intro v2' w6 hown2 hgrow2 _
  have n3:BV rd mo (w6.setCell ⟨b,2,VM⟩ v2') B b v0 (VF Fv (n1+1) c1') v2' its (tx++[c]) (cuts++[off]):=by
   refine BV.vw (ku.out.ah ((ac.refl _).alloc _)) hgrow2 ?_;rw[dl,List.length_append,List.length_singleton,eV];exact hown2
  have n6:Below B w (w6.setCell ⟨b,2,VM⟩ v2'):=dn (nF.out.alloc (by simp;omega) _) (by simp;omega) hgrow2 (λg hg=>ax jv.out g hg) HB.out
  have eB:w6.1[b]?=VN (VK ⟨v0 :: VF Fv (n1+1) c1' :: VF A2 n2 c2 :: mo⟩ rd (0,0)):=by
   obtain⟨q0,q1,_,_,q4⟩:=ku.out.ah ((ac.refl _).alloc (VK #[VD VJ off] 3));exact(hgrow2.block b (ae q1) (λe=>aQ q4 q1 (lB (by decide)) e.symm)).trans q1
  obtain⟨Mj,c2',rfl,_⟩:=aC hown2;have d2:w6.cell? ⟨b,2,VM⟩=VN (VF A2 n2 c2):=ai eB 2;have Nv:w6.frozen? ⟨b,2,VM⟩=false:=bg eB 2;haveI:af b w6:=af.of (ae eB);have HE:=aa (And.intro n3 n6);clear n3 n6 eB hown2 hgrow2 e1 e2 Ny Nz ku nF;go_wp2;go_ret;exact⟨rfl,λ_=>⟨_,_,_,HE.out.1⟩,HE.out.2⟩
 rw[hb]at hf;have HF:=aa hf;clear hf h;go_enter Tryz.func162,Tryz.ntmps162;go_wp2_with fail;refine HF.out.mono ?_;rintro e w' ⟨rfl,rfl⟩;go_wp2;go_ret;exact⟨rfl,(λh=>nomatch h),Below.refl _ _⟩
theorem nR{w:VO}{B n c:Nat}{A:Option Addr}{l:List UInt8}(h:w.ownsRow B 5 1 (VF A n c) n (Lib.byteCells l))(h0:0<n) :
  (convert 22 9 (VF A n c)).run Tryz.prog w=.ok (VE ⟨l.toArray⟩) w:=by
 have hl:l.length=n:=by have:=h.1;rw[Lib.byteCells_length]at this;simpa using this
 obtain⟨g,rfl,_,_,hc⟩:=dY h h0
 rw[run_convert_bytes_arg w 22 5 Tryz.underlying22 Tryz.underlying5 g 0 n c (l.map λx=>(x.toNat:Int)) (by simpa using hl) (λi hi=>by
  rw[Nat.zero_add];refine hc i _ ?_;have hil:i<l.length:=by omega
  simp[Lib.byteCells,List.getD_eq_getElem?_getD,hil]) _ Tryz.underlying9]
 simp[strOfNums,Function.comp_def]
theorem BV.after{w w1:VO}{B b:Nat}{v0 v1 v2:Value}{its:List St.It}{tx:List UInt8}{cuts:List Nat}(h:BV rd mo w B b v0 v1 v2 its tx cuts){row:Option Nat}(hg:w.grownBy w1 row)(hr:row=v0.ownBlock\/row=v1.ownBlock\/row=v2.ownBlock) :
  w1.1[b]?=VN (VK ⟨v0 :: v1 :: v2 :: mo⟩ rd (0,0)):=by
 obtain⟨_,h1,h2,h3,h4⟩:=h;refine(hg.block b (ae h1) (λe=>?_)).trans h1;rcases hr with rfl|rfl|rfl
 ·exact aQ h2 h1 (lB (by decide)) e.symm
 ·exact aQ h3 h1 (lB (by decide)) e.symm
 exact aQ h4 h1 (lB (by decide)) e.symm
theorem mF(w W:VO)(B b:Nat)(its:List St.It)(tx:List UInt8)(cuts:List Nat)(h:b7 rd mo w B b its tx cuts)(hu:ac w W)(h1:its.length<=600)(h3:tx.length<=2000)(hBw:B<=w.1.size) :
  Calls Tryz.prog 121 #[VH (VN ⟨b,0,VM⟩)] W λe w'=>
   e=VL (.tuple #[])/\b7 rd mo w' B b (its++St.b8 tx) [] cuts/\Below B W w'/\∀k,w.1.size<=k->k<W.1.size->w'.1[k]?=W.1[k]?:=by
 obtain⟨v0,v1,v2,hv⟩:=h;have TF:=ae hv.2.1;have hol:∀g,v0.ownBlock=VN g->g<w.1.size:=λg hg=>(hv.2.2.1.lt g hg).2
 replace hv:=hv.ah hu
 have dF:B<=W.1.size:=Nat.le_trans hBw hu.size;have HV:=aa hv;obtain⟨A0,c0,A1,c1,A2,c2,rfl,rfl,rfl⟩:=hv.cells;obtain⟨hB,hbk,ho0,ej,fk⟩:=hv;have g0:W.cell? ⟨b,0,VM⟩=VN (VF A0 its.length c0):=ai hbk 0;have g1:W.cell? ⟨b,1,VM⟩=VN (VF A1 tx.length c1):=ai hbk 1;haveI:af b W:=af.of (ae hbk);have pD:=aa ho0;have my:=aa ej;have HB:=aa hB;have FK:=aa hol;have TE:=hu.size;rcases Nat.eq_zero_or_pos tx.length with z|z
 ·have htx:tx=[]:=List.eq_nil_of_length_eq_zero z;subst htx;clear ho0 ej fk hbk hB hol;go_enter Tryz.func121,Tryz.ntmps121;go_wp2;go_end0;exact⟨rfl,⟨_,_,_,by simpa[St.b8]using HV.out⟩,Below.refl _ _,λ_ _ _=>rfl⟩
 have z':(0:Int)<(tx.length:Int):=by omega
 have hcv:=nR ej z;have R9:(convert 22 9 (.slice A1 tx.length c1)).run Tryz.prog W.drew=.ok (.string ⟨tx.toArray⟩) W.drew:=nR (w:=W.drew) ej z;obtain⟨i0,hi,hz0,hz1,hz2⟩:=info_parts dA;have vD:ac W W.drew:=uZ;have Ti:=aa (HV.out.ah vD);generalize hn0:its.length=n0 at *;generalize fZ:tx.length=n1 at *;clear ho0 ej fk hbk hB hol hcv;go_enter Tryz.func121,Tryz.ntmps121;go_wp2_with fail;go_region_law (refine bW rfl (.tmp 12) (.tmp 19) 37 rfl B 36 i0 (.agg #[.int .i64 0,.string ⟨#[]⟩,.int .i64 0]) 3 32 Tryz.underlying37 hi hz0 hz1 hz2 rfl (by decide) (.slice A0 n0 c0) n0 _ rfl (dZ (pD.out.alloc (.cells #[.int .i64 1,.string ⟨tx.toArray⟩,.int .i64 0] 36)) (ac.refl _).drew) ⟨W.1.size,0,none⟩ 1 1 [.int .i64 1,.string ⟨tx.toArray⟩,.int .i64 0] rfl rfl (ee W _ _ _ 36 _ rfl) (cG 1 0 _) (by unfold maxLen;omega) (by omega) (by simp;omega) ?_;intro v' w1 hown' hgrow _;have hgr:=aK (ac.gb (uZ:ac W (W.alloc (.cells #[.int .i64 1,.string ⟨tx.toArray⟩,.int .i64 0] 36)).drew) (Value.slice A0 n0 c0).ownBlock) hgrow (λg e=>Or.inl e);have hb4:=HV.out.after hgr (Or.inl rfl);have e0:w1.cell? ⟨b,0,none⟩=some (.slice A0 n0 c0):=ai hb4 0;have e1:w1.cell? ⟨b,1,none⟩=some (.slice A1 n1 c1):=ai hb4 1;have f0:w1.frozen? ⟨b,0,none⟩=false:=bg hb4 0;have f1:w1.frozen? ⟨b,1,none⟩=false:=bg hb4 1;haveI:af b w1:=af.of (ae hb4);obtain⟨A',c',rfl,_⟩:=aC hown')
 all_goals
  have ie:BV rd mo (w1.setCell ⟨b,0,VM⟩ (VF A' (n0+1) c')) B b (VF A' (n0+1) c') (VF A1 n1 c1) (VF A2 cuts.length c2) (its++[(1,tx,0)]) tx cuts:=by
   refine BV.vu HV.out hgr ?_;rw[bw,List.length_append,List.length_singleton,hn0];exact hown'
  have hbl:Below B W (w1.setCell ⟨b,0,VM⟩ (VF A' (n0+1) c')):=dn (Below.refl B W) dF hgr (λg hg=>ax pD.out g hg) HB.out;have hfr:∀k,w.1.size<=k->k<W.1.size->w1.1[k]?=W.1[k]?:=λk hk hk2=>hgr.block k hk2 (λe=>by have:=FK.out k e.symm;omega)
  have HE:=aa (And.intro ie (And.intro hbl hfr));clear ie hbl hfr hgr hgrow hown' hb4;go_wp2;go_end0;have ht:St.b8 tx=[(1,tx,0)]:=by unfold St.b8;rw[if_neg (by intro e;rw[e]at fZ;simp at fZ;omega)]
  have eO:b7 rd mo ((w1.setCell ⟨b,0,VM⟩ (VF A' (n0+1) c')).setCell ⟨b,1,VM⟩ (VF VM 0 0)) B b (its++St.b8 tx) [] cuts:=by
   rw[ht];exact⟨_,_,_,HE.out.1.Ae⟩
  refine⟨rfl,eO,HE.out.2.1.setCell (p:=⟨b,1,VM⟩) HB.out _,λk hk hk2=>?_⟩;rw[heap_setCell_other _ _ _ _ (by show k≠b;omega),heap_setCell_other _ _ _ _ (by show k≠b;omega)];exact HE.out.2.2 k hk hk2
end
section
variable {mo:List Value} {rd:TypeId} [ue rd]
theorem uT(t:List UInt8):(St.b8 t).length<=1:=by rw[St.tD];split<;>omega
theorem kB(w:VO)(B b:Nat)(its:List St.It)(tx:List UInt8)(cuts:List Nat)(k i:Int)(s:ByteArray)(off:Nat)(h:b7 rd mo w B b its tx cuts)(h1:its.length<=600)(h2:cuts.length<=2000)(h3:tx.length<=2000)(hBw:B<=w.1.size) :
  Calls Tryz.prog 164 #[VH (VN ⟨b,0,VM⟩),.agg #[VD VJ k,VE s,VD VJ i],VD VJ off] w λe w'=>
   e=VL (VG (!St.aT its.length tx.length cuts.length false))/\(St.aT its.length tx.length cuts.length false=false->b7 rd mo w' B b (its++St.b8 tx++[(k,s.1.1,i)]) [] (cuts++[off]))/\Below B w w':=by
 have huA:ac w (w.alloc (VK #[VD VJ k,VE s,VD VJ i] 36)):=uZ;have hf:=nY _ B b its tx cuts false (h.ah huA) h1 h2;have hfl:=mF w _ B b its tx cuts h huA h1 h3 hBw;have mQ:=aa hfl;cases hb:St.aT its.length tx.length cuts.length false
 ·rw[hb]at hf;have HF:=aa hf;clear hf hfl h;go_enter Tryz.func164,Tryz.ntmps164;go_wp2_with fail;refine HF.out.mono ?_;rintro e w' ⟨rfl,rfl⟩;go_wp2_with fail;refine mQ.out.mono ?_;rintro e w2 ⟨rfl,⟨v0,v1,v2,hv⟩,hbl,hfr⟩;have n7:w2.1[w.1.size]?=VN (VK #[VD VJ k,VE s,VD VJ i] 36 (0,0)):=(hfr _ (Nat.le_refl _) (by simp)).trans (heap_alloc_new w _);have x0:w2.cell? ⟨w.1.size,0,VM⟩=VN (VD VJ k):=ai n7 0;have x1:w2.cell? ⟨w.1.size,1,VM⟩=VN (VE s):=ai n7 1;have x2:w2.cell? ⟨w.1.size,2,VM⟩=VN (VD VJ i):=ai n7 2;haveI:af w.1.size w2:=af.of (ae n7);have HV:=aa hv;obtain⟨A0,c0,A1,c1,A2,c2,rfl,rfl,rfl⟩:=hv.cells;obtain⟨hB,hbk,ho0,ej,fk⟩:=hv;have g0:w2.cell? ⟨b,0,VM⟩=VN (VF A0 (its++St.b8 tx).length c0):=ai hbk 0;have kc:B<=w2.1.size:=Nat.le_trans (Nat.le_trans hBw huA.size) hbl.size;have cX:=aa ((Below.refl B w).alloc hBw (VK #[VD VJ k,VE s,VD VJ i] 36) |>.trans hbl);have Sj:(its++St.b8 tx).length<=601:=by have:=uT tx;simp;omega
  haveI:af b w2:=af.of (ae hbk);have pD:=aa ho0;have HB:=aa hB;generalize hits:its++St.b8 tx=qG at *;obtain⟨i0,hi,hz0,hz1,hz2⟩:=info_parts dA;obtain⟨ii,ki,kz0,kz1,kz2⟩:=info_parts fJ;generalize hn0:qG.length=n0 at *;generalize eV:cuts.length=n2 at *;clear hbk ho0 ej fk hB hbl hfr n7 HF mQ;go_wp2_with fail;go_region_law (refine bW rfl (.tmp 15) (.tmp 17) 37 rfl B 36 i0 (.agg #[.int .i64 0,.string ⟨#[]⟩,.int .i64 0]) 3 32 Tryz.underlying37 hi hz0 hz1 hz2 rfl (by decide) (.slice A0 n0 c0) n0 _ rfl (dZ (pD.out.alloc (.cells #[.int .i64 k,.string s,.int .i64 i] 36)) (ac.refl _).drew) ⟨w2.1.size,0,none⟩ 1 1 [.int .i64 k,.string s,.int .i64 i] rfl rfl (ee w2 _ _ _ 36 _ rfl) (cG k i _) (by unfold maxLen;omega) (by omega) (by simp;omega) ?_;intro v' w1 hown' hgrow _;have hgr:=aK (ac.gb (uZ:ac w2 (w2.alloc (.cells #[.int .i64 k,.string s,.int .i64 i] 36)).drew) (Value.slice A0 n0 c0).ownBlock) hgrow (λg e=>Or.inl e);have hb4:=HV.out.after hgr (Or.inl rfl);have e0:w1.cell? ⟨b,0,none⟩=some (.slice A0 n0 c0):=ai hb4 0;have f0:w1.frozen? ⟨b,0,none⟩=false:=bg hb4 0;haveI:af b w1:=af.of (ae hb4);obtain⟨A',c',rfl,_⟩:=aC hown')
  all_goals
   have ie:BV rd mo (w1.setCell ⟨b,0,VM⟩ (VF A' (n0+1) c')) B b (VF A' (n0+1) c') (VF A1 ([]:List UInt8).length c1) (VF A2 n2 c2) (qG++[(k,s.1.1,i)]) [] cuts:=by
    refine BV.vu HV.out hgr ?_;rw[bw,List.length_append,List.length_singleton,hn0];simp only[aX];exact hown'
   have kx:Below B w (w1.setCell ⟨b,0,VM⟩ (VF A' (n0+1) c')):=dn cX.out kc hgr (λg hg=>ax pD.out g hg) HB.out;have e2:w1.cell? ⟨b,2,VM⟩=VN (VF A2 n2 c2):=ai hb4 2;have f2:w1.frozen? ⟨b,2,VM⟩=false:=bg hb4 2;have ku:=aa ie;have nF:=aa kx;have jv:=aa ie.2.2.2.2;have mN:B<=w1.1.size:=by have:=kx.size;simp at this;omega
   clear ie kx hb4 hown' hgrow hgr g0 x0 x1 x2 HV pD cX;go_wp2_with (at_builtin;refine wpList_append_own _ rfl _ _ 42 rfl B 3 ii (.int .i64 0) 1 8 Tryz.underlying42 ki kz0 kz1 kz2 rfl (by decide) (.slice A2 n2 c2) n2 _ rfl (by have:=jv.out.alloc (.cells #[.int .i64 off] 3);rw[eV]at this;exact this) _ 1 1 [.int .i64 off] rfl rfl ?_ (by simp;rfl) (by unfold maxLen;omega) (by omega) ?_ ?_)
   ·exact sN _ _ _ _ (by simp)
   ·simp;omega
   intro v2' w6 hown2 hgrow2 _
   have n3:BV rd mo (w6.setCell ⟨b,2,VM⟩ v2') B b (VF A' (n0+1) c') (VF A1 ([]:List UInt8).length c1) v2' (qG++[(k,s.1.1,i)]) [] (cuts++[off]):=by
    refine BV.vw (ku.out.ah ((ac.refl _).alloc _)) hgrow2 ?_;rw[dl,List.length_append,List.length_singleton,eV];exact hown2
   have n6:Below B w (w6.setCell ⟨b,2,VM⟩ v2'):=dn (nF.out.alloc (by simp;omega) _) (by simp;omega) hgrow2 (λg hg=>ax jv.out g hg) HB.out;have eB:=(ku.out.ah ((ac.refl _).alloc (VK #[VD VJ off] 3))).after hgrow2 (Or.inr (Or.inr rfl));obtain⟨Mj,c2',rfl,_⟩:=aC hown2;have d2:w6.cell? ⟨b,2,VM⟩=VN (VF A2 n2 c2):=ai eB 2;have Nv:w6.frozen? ⟨b,2,VM⟩=false:=bg eB 2;haveI:af b w6:=af.of (ae eB);have HE:=aa (And.intro (show b7 rd mo _ B b (qG++[(k,s.1.1,i)]) [] (cuts++[off])from⟨_,_,_,n3⟩) n6);clear n3 n6 eB hown2 hgrow2 e0 f0 e2 f2 ku nF;go_wp2;go_ret;subst hits;exact⟨rfl,λ_=>HE.out.1,HE.out.2⟩
 rw[hb]at hf;have HF:=aa hf;clear hf hfl mQ;go_enter Tryz.func164,Tryz.ntmps164;go_wp2_with fail;refine HF.out.mono ?_;rintro e w' ⟨rfl,rfl⟩;go_wp2;go_ret;exact⟨rfl,(λh=>nomatch h),(Below.refl B w).alloc hBw _⟩
theorem oX(w:VO)(B b:Nat)(its:List St.It)(tx:List UInt8)(cuts:List Nat)(h:b7 rd mo w B b its tx cuts)(h1:its.length<=600)(h3:tx.length<=2000)(hBw:B<=w.1.size) :
  Calls Tryz.prog 82 #[VH (VN ⟨b,0,VM⟩)] w λe w'=>∃A c,e=VL (VF A (its++St.b8 tx).length c)/\aE w' A (its++St.b8 tx)/\(its++St.b8 tx).length<=c/\c<=9223372036854775807/\Below B w w':=by
 have mQ:=aa (mF w w B b its tx cuts h (ac.refl w) h1 h3 hBw);clear h;go_enter Tryz.func82,Tryz.ntmps82;go_wp2_with fail;refine mQ.out.mono ?_;rintro e w2 ⟨rfl,⟨v0,v1,v2,hv⟩,hbl,_⟩;obtain⟨A0,c0,A1,c1,A2,c2,rfl,rfl,rfl⟩:=hv.cells;obtain⟨hB,hbk,ho0,ej,fk⟩:=hv;have g0:w2.cell? ⟨b,0,VM⟩=VN (VF A0 (its++St.b8 tx).length c0):=ai hbk 0;haveI:af b w2:=af.of (ae hbk);obtain⟨_,_,hq,hq1,hq2⟩:=aC ho0;simp only[Value.slice.injEq]at hq;obtain⟨rfl,_,rfl⟩:=hq;have HE:=aa (And.intro (aM ho0 rfl) hbl);clear hbk ho0 ej fk hB hbl mQ;generalize N9:its++St.b8 tx=f at *;go_wp2;go_ret;subst N9;exact⟨_,_,rfl,HE.out.1,hq1,by unfold maxLen at hq2;omega,HE.out.2⟩
theorem oL(w:VO)(B b:Nat)(its:List St.It)(tx:List UInt8)(cuts:List Nat)(last:Nat)(h:b7 rd mo w B b its tx cuts)(h2:cuts.length<=2000)(hBw:B<=w.1.size) :
  Calls Tryz.prog 112 #[VH (VN ⟨b,0,VM⟩),VD VJ last] w λe w'=>∃A c,e=VL (VF A (cuts.length+1) c)/\iz w' A (cuts++[last])/\cuts.length+1<=c/\c<=9223372036854775807/\Below B w w':=by
 have US:=(inferInstance:ue rd);obtain⟨v0,v1,v2,hv⟩:=h;obtain⟨A0,c0,A1,c1,A2,c2,rfl,rfl,rfl⟩:=hv.cells;obtain⟨hB,hbk,ho0,ej,fk⟩:=hv;have g2:w.cell? ⟨b,2,none⟩=some (.slice A2 cuts.length c2):=ai hbk 2;haveI:af b w:=af.of (ae hbk);obtain⟨ii,ki,kz0,kz1,kz2⟩:=info_parts fJ;have jv:=aa fk;clear hbk ho0 ej fk hB;generalize eV:cuts.length=n2 at *;go_enter Tryz.func112,Tryz.ntmps112;go_wp2_with (at_builtin;refine wpList_append_own _ rfl _ _ 42 rfl B 3 ii (.int .i64 0) 1 8 Tryz.underlying42 ki kz0 kz1 kz2 rfl (by decide) (.slice A2 n2 c2) n2 _ rfl (jv.out.alloc _) _ 1 1 [.int .i64 last] rfl rfl ?_ (by simp;rfl) (by unfold maxLen;omega) (by omega) ?_ ?_)
 ·exact fF _ _ _
 ·simp;omega
 intro v' w4 hown' hgrow _;obtain⟨A',c',rfl,hq1,hq2⟩:=aC hown';have vH:iz w4 A' (cuts++[last]):=qL (n:=n2+1) (by rw[dl];exact hown') (by simp[eV]);have hbl:Below B w w4:=((Below.refl B w).alloc hBw _).grown hgrow (by simp;omega) (λg hg=>ax jv.out g hg);have HE:=aa (And.intro vH hbl);clear vH hbl hown' hgrow;go_wp2;go_ret;exact⟨_,_,rfl,HE.out.1,hq1,by unfold maxLen at hq2;omega,HE.out.2⟩
end
