/- The contract of bitextmake.Document: a document that the reference's Parse has given. -/
import Derived.Test.YthoemdibbldndaaGreatDoorGJ
import Derived.Test.YthoemdibbldndaaGreatDoorGK
set_option linter.all false
set_option maxHeartbeats 0
set_option maxRecDepth 20000
open Go.Value renaming int->VD,slice->VF
open Go.IntKind renaming i64->VJ
open Go.Ending renaming returned->VL
open Option renaming none->VM,some->VN
namespace Go.Proofs.YthoemdibbldndaaGreatDoor
open Go.RowKit
section
theorem IQ(fmt:Int)(hk:fmt=1\/fmt=2\/fmt=3)(B g P:Nat)(w:World)(hG:bm w B g P)(hP:P<=10000) :
  Calls Tryz.prog 100 #[.pointer (VN ⟨g,0,VM⟩),VD VJ fmt,VD VJ 4] w λe w'=>∃data:ByteArray,e=VL (.string data)/\data.size<=1000000/\bm w' B g (P+1602)/\w.grownBy w' (VN g):=by
 rcases hk with rfl|rfl|rfl
 ·refine(EO B g P 4 w hG hP (by omega)).mono ?_;rintro e w' ⟨data,rfl,h1,h2,h3⟩;exact⟨data,rfl,by omega,h2.le (by omega),h3⟩
 ·refine(EP B g P 4 w hG hP (by omega)).mono ?_;rintro e w' ⟨data,rfl,h1,h2,h3⟩;exact⟨data,rfl,by omega,h2.le (by omega),h3⟩
 refine(EQ B g P 4 w hG hP (by omega)).mono ?_;rintro e w' ⟨data,rfl,h1,h2,h3⟩;exact⟨data,rfl,by omega,h2.le (by omega),h3⟩
set_option maxRecDepth 100000 in
theorem yH:St.S1 (⟨#[60,112,62,114,101,100,32,99,97,114,60,47,112,62]⟩:ByteArray).1.1=([(false,[],[60,112,62]),(true,[49],[114,101,100,32,99,97,114]),(false,[],[60,47,112,62])],0,0):=by kernel_rfl
theorem JC(B g P:Nat)(w:World)(hG:bm w B g P)(hP:P<=9000) :
  Calls Tryz.prog 58 #[.pointer (VN ⟨g,0,VM⟩),VD VJ 4] w λe w'=>∃(fmt:Int) (A:Option Addr) (c:Nat) (ps:List St.Pt),e=VL (.agg #[VD VJ fmt,VF A ps.length c])/\mm fmt ps/\aY w' A ps/\ps.length<=c/\c<=9223372036854775807/\w.grownBy w' (VN g):=by
 have HG:=aa hG;obtain⟨jD,hB⟩:=hG.lt;clear hG;go_enter Tryz.func58,Tryz.ntmps58;go_wp2_with fail;refine(bN B g P 3 _ (HG.out.ah uZ) (by omega) (by omega) (by omega)).mono ?_;rintro e w1 ⟨r,rfl,hr,Gv,hk1⟩;have u4:=aa Gv;have xv:=aa (aK (ac.gb (uZ:ac w (w.alloc (.cells #[VD VJ 0,VF VM 0 0] 25))) (VN g)) hk1 (λx e=>Or.inl e));have nJ:=aa ((hk1.block w.1.size (by simp) (by simp;omega)).trans (heap_alloc_new w (.cells #[VD VJ 0,VF VM 0 0] 25)));clear Gv hk1;obtain⟨fmt,hf⟩:∃fmt:Int,fmt=1+(r:Int):=⟨_,rfl⟩;have hkn:fmt=1\/fmt=2\/fmt=3:=by omega
 have hdata:=aa (IQ fmt hkn B g (P+1) w1 u4.out (by omega));have hf2:1+(r:Int)=fmt:=hf.symm;clear hf hr;go_wp2_with fail;refine hdata.out.mono ?_;rintro e w2 ⟨data,rfl,hds,hG2,hk2⟩;have HG2:=aa hG2;have fQ:=aa (aK xv.out hk2 (λ_ e=>.inl e));have jx:=aa ((hk2.block w.1.size (ae nJ.out) (by simp;omega)).trans nJ.out);have On:=aa (λW=>sJ data W (OI fmt hkn) (by omega));clear hG2 hk2 u4 xv nJ hdata;go_wp2_with fail;refine(On.out _).mono ?_;rintro e w3 ⟨hu3,h3⟩;generalize hS:lM fmt data.1.1=R at h3;obtain⟨ps,pl,er⟩:=R;simp only at h3;have iX:=St.aD data;have gJ:=aa (HG2.out.ah hu3);have ff:=aa (bE fQ.out hu3);have hb3:=(hu3.below.block w.1.size (ae jx.out)).trans jx.out;have nD:=aa hb3;have d0:w3.cell? ⟨w.1.size,0,VM⟩=VN (VD VJ 0):=ai hb3 0;have d1:w3.cell? ⟨w.1.size,1,VM⟩=VN (VF VM 0 0):=ai hb3 1;have f0:w3.frozen? ⟨w.1.size,0,VM⟩=false:=bg hb3 0;have f1:w3.frozen? ⟨w.1.size,1,VM⟩=false:=bg hb3 1;have dW:=ae hb3;haveI:af w.1.size w3:=af.of dW;clear hb3 hu3 HG2 fQ jx On
 have fin:∀(W V:World) (fm:Int) (A:Option Addr) (qs:List St.Pt) (c:Nat) (u v:Value),mm fm qs->qs.length<=c->c<=9223372036854775807->aY W A qs->ac w3 W->ac ((W.setCell ⟨w.1.size,0,VM⟩ u).setCell ⟨w.1.size,1,VM⟩ v) V->∃(fmt:Int) (A':Option Addr) (c':Nat) (ps:List St.Pt),Ending.returned (.agg #[VD VJ fm,VF A qs.length c])=VL (.agg #[VD VJ fmt,VF A' ps.length c'])/\mm fmt ps/\aY V A' ps/\ps.length<=c'/\c'<=9223372036854775807/\w.grownBy V (VN g):=
  λW V fm A qs c u v h1 h3 h4 h2 hu hV=>⟨fm,A,c,qs,rfl,h1,(iP h2 ((hu.below.block w.1.size dW).trans nD.out) u v).ah hV,h3,h4,bE (bM (bM (bE ff.out hu) ⟨w.1.size,0,VM⟩ _ (.inr (Nat.le_refl _))) ⟨w.1.size,1,VM⟩ _ (.inr (Nat.le_refl _))) hV⟩
 have gk:=aa fin;clear fin;rcases h3 with⟨rfl,A,c,rfl,hP,h1,h2⟩|⟨he,rfl⟩
 ·have HF:=aa (show mm fmt ps from⟨hkn,_,pl,by omega,hS⟩);have HP:=aa hP;clear hS hP hf2;go_wp2;refine bodyPost_ret (v:=.agg #[VD VJ fmt,VF A ps.length c]) ?_ rfl ?_
  ·simp[results,Tryz.results58,go_sem,d0,d1]
  exact gk.out w3 _ fmt A ps c _ _ HF.out h1 h2 HP.out (ac.refl _) (uZ)
 have z1:(er==0)=false:=by simpa using he
 have z2:(er != 0)=true:=by simpa using he
 have sr:=aa (λW=>sJ ⟨#[60,112,62,114,101,100,32,99,97,114,60,47,112,62]⟩ W Ri (by show 14<=_;omega));rw[yH]at sr;clear he hS hf2;go_wp2_with fail;refine(sr.out _).mono ?_;rintro e w4 ⟨aU,h4⟩
 have h5:∃A c,e=VL (.tuple #[.agg #[VD VJ 1,VF A 3 c],VD VJ 0,VD VJ 0])/\aY w4 A [(false,[],[60,112,62]),(true,[49],[114,101,100,32,99,97,114]),(false,[],[60,47,112,62])]/\3<=c/\c<=9223372036854775807:=by
  rcases h4 with⟨_,h⟩|⟨h,_⟩
  ·exact h
  exact absurd rfl h
 obtain⟨A,c,rfl,hP,h1,h2⟩:=h5;have HF:=aa (show mm 1 [(false,[],[60,112,62]),(true,[49],[114,101,100,32,99,97,114]),(false,[],[60,47,112,62])]from⟨.inl rfl,(⟨#[60,112,62,114,101,100,32,99,97,114,60,47,112,62]⟩:ByteArray).1.1,0,by decide,by unfold lM;rw[if_pos rfl];exact yH⟩);generalize hps:[(false,([]:List UInt8),[(60:UInt8),112,62]),(true,[49],[114,101,100,32,99,97,114]),(false,[],[60,47,112,62])]=ps at hP HF;have hl:3=ps.length:=by rw[<-hps];rfl
 have hb4:=(aU.below.block w3.1.size (by simp)).trans (heap_alloc_new w3 (.cells #[VD VJ 0,VF VM 0 0] 25));have qC:ac w3 w4:=ac.trans (uZ) aU;have hr4:=(qC.below.block w.1.size dW).trans nD.out;have e0:w4.cell? ⟨w3.1.size,0,VM⟩=VN (VD VJ 0):=ai hb4 0;have e1:w4.cell? ⟨w3.1.size,1,VM⟩=VN (VF VM 0 0):=ai hb4 1;have k0:w4.frozen? ⟨w3.1.size,0,VM⟩=false:=bg hb4 0;have k1:w4.frozen? ⟨w3.1.size,1,VM⟩=false:=bg hb4 1;have c0:w4.cell? ⟨w.1.size,0,VM⟩=VN (VD VJ 0):=ai hr4 0;have c1:w4.cell? ⟨w.1.size,1,VM⟩=VN (VF VM 0 0):=ai hr4 1;have l0:w4.frozen? ⟨w.1.size,0,VM⟩=false:=bg hr4 0;have l1:w4.frozen? ⟨w.1.size,1,VM⟩=false:=bg hr4 1;haveI:af w.1.size w4:=af.of (ae hr4);haveI:af w3.1.size w4:=af.of (ae hb4);have hne:¬w.1.size=w3.1.size:=by omega
 have Jd:¬w3.1.size=w.1.size:=by omega
 have HP:=aa (λu v=>iP hP hb4 u v);have fD:=aa (λu v=>(qC.setCell (p:=⟨w3.1.size,0,VM⟩) (Nat.le_refl _) u).setCell (p:=⟨w3.1.size,1,VM⟩) (Nat.le_refl _) v);have HL:=aa hl;clear h4 hps hP hb4 hr4 aU qC sr hl;go_wp2;refine bodyPost_ret (v:=.agg #[VD VJ 1,VF A 3 c]) ?_ rfl ?_
 ·simp[results,Tryz.results58,go_sem,c0,c1,e0,e1,hne,Jd]
 rw[HL.out]at h1 |-;exact gk.out _ _ 1 A ps c _ _ HF.out h1 h2 (HP.out _ _) (fD.out _ _) (uZ)
end
section
def CS(w:World)(e:Ending)(w':World):Prop:=
 ∃(fmt:Int) (A:Option Addr) (c:Nat) (ps:List St.Pt),e=VL (.agg #[VD VJ fmt,VF A ps.length c])/\mm fmt ps/\aY w' A ps/\ps.length<=c/\c<=9223372036854775807/\ac w w'
theorem ET(A:Option Addr)(n c:Nat)(zs:List Int)(w:World)(hz:zs.length=n)(hn:n<=9223372036854775807)(hI:fh w A zs) :
  Calls Tryz.prog 20 #[VF A n c] w (CS w):=by
 have hw1:ac w (w.alloc (.cells #[VD VJ 0,VF VM 0 0] 25)):=uZ;have I7:=aa (JC _ _ 0 _ (bm.fresh (w:=w.alloc (.cells #[VD VJ 0,VF VM 0 0] 25)) (c:=c) (T:=61) hn hz (hI.ah hw1)) (by omega));rw[show(w.alloc (.cells #[VD VJ 0,VF VM 0 0] 25)).1.size=w.1.size+1 by simp]at I7;clear hI;go_enter Tryz.func20,Tryz.ntmps20;go_wp2_with fail;refine I7.out.mono ?_;rintro e w2 ⟨fmt,A2,c2,ps,rfl,hF,hP,h1,h2,hk⟩;have hu2:ac w w2:=((ac.refl w).alloc _ |>.alloc _).tr hk (λg e=>by cases e;omega);have hb2:=(hk.block w.1.size (by simp;omega) (by simp)).trans ((((ac.refl _).alloc _).below.block w.1.size (by simp)).trans (heap_alloc_new w (.cells #[VD VJ 0,VF VM 0 0] 25)));have d0:w2.cell? ⟨w.1.size,0,VM⟩=VN (VD VJ 0):=ai hb2 0;have d1:w2.cell? ⟨w.1.size,1,VM⟩=VN (VF VM 0 0):=ai hb2 1;have f0:w2.frozen? ⟨w.1.size,0,VM⟩=false:=bg hb2 0;have f1:w2.frozen? ⟨w.1.size,1,VM⟩=false:=bg hb2 1;haveI:af w.1.size w2:=af.of (ae hb2)
 have HE:=aa (λu v=>(show CS w (VL (.agg #[VD VJ fmt,VF A2 ps.length c2])) ((w2.setCell ⟨w.1.size,0,VM⟩ u).setCell ⟨w.1.size,1,VM⟩ v)from
  ⟨fmt,A2,c2,ps,rfl,hF,iP hP hb2 u v,h1,h2,(hu2.setCell (p:=⟨w.1.size,0,VM⟩) (Nat.le_refl _) u).setCell (p:=⟨w.1.size,1,VM⟩) (Nat.le_refl _) v⟩))
 clear hF hP hk hu2 hb2 I7;go_wp2;refine bodyPost_ret (v:=.agg #[VD VJ fmt,VF A2 ps.length c2]) ?_ rfl ?_
 ·simp[results,Tryz.results20,go_sem,d0,d1]
 exact HE.out _ _
end
