/- The contracts of bitextmake.Document and of the document's laws' maker: a document in the. -/
import Derived.Test.YthoemdibbldndaaGreatDoorHvr
import Derived.Test.YthoemdibbldndaaGreatDoorGJ
import Derived.Test.YthoemdibbldndaaGreatDoorGK
set_option linter.all false
set_option maxHeartbeats 0
set_option maxRecDepth 20000
open Go.Value renaming int->UM,slice->UO
open Go.IntKind renaming i64->US
open Option renaming none->UW,some->UX
namespace Go.Proofs.YthoemdibbldndaaGreatDoor
open Go.RowKit
theorem Hk(fmt:Int)(hk:fmt=1\/fmt=2\/fmt=3)(B g P:Nat)(w:World)(hG:bK w B g P)(hP:P<=10000) :
  Calls Tryz.prog 100 #[.pointer (UX ⟨g,0,UW⟩),UM US fmt,UM US 4] w λe w'=>∃data:ByteArray,e=.returned (.string data)/\zE fmt 4 data/\data.size<=25000/\bK w' B g (P+1602)/\w.grownBy w' (UX g):=by
 rcases hk with rfl|rfl|rfl
 ·refine(E1 B g P 4 w hG hP (by omega)).mono ?_;rintro e w' ⟨data,rfl,h0,h1,h2,h3⟩;exact⟨data,rfl,h0,by omega,h2.le (by omega),h3⟩
 ·refine(E2 B g P 4 w hG hP (by omega)).mono ?_;rintro e w' ⟨data,rfl,h0,h1,h2,h3⟩;exact⟨data,rfl,h0,by omega,h2.le (by omega),h3⟩
 refine(E3 B g P 4 w hG hP (by omega)).mono ?_;rintro e w' ⟨data,rfl,h0,h1,h2,h3⟩;exact⟨data,rfl,h0,by omega,h2.le (by omega),h3⟩
theorem Hr(B g P:Nat)(w:World)(hG:bK w B g P)(hP:P<=9000) :
  Calls Tryz.prog 58 #[.pointer (UX ⟨g,0,UW⟩),UM US 4] w λe w'=>∃(fmt:Int) (A:Option Addr) (c:Nat) (ps:List St.Pt),e=.returned (.agg #[UM US fmt,UO A ps.length c])/\j4 fmt ps/\bn w' A ps/\ps.length<=c/\c<=9223372036854775807/\w.grownBy w' (UX g):=by
 have HG:=aa hG;obtain⟨kw,hB⟩:=hG.lt;clear hG;go_enter Tryz.func58,Tryz.ntmps58;go_wp2_with fail;refine(cx B g P 3 _ (HG.out.ai uZ) (by omega) (by omega) (by omega)).mono ?_;rintro e w1 ⟨r,rfl,hr,G6,hk1⟩;have P6:=aa G6;have Qe:=aa (aW (ac.gb (uZ:ac w (w.alloc (.cells #[UM US 0,UO UW 0 0] 25))) (UX g)) hk1 (λx e=>Or.inl e));have Ad:=aa ((hk1.block w.1.size (by simp) (by simp;omega)).trans (heap_alloc_new w (.cells #[UM US 0,UO UW 0 0] 25)));clear G6 hk1;obtain⟨fmt,hf⟩:∃fmt:Int,fmt=1+(r:Int):=⟨_,rfl⟩;have hkn:fmt=1\/fmt=2\/fmt=3:=by omega
 have hdata:=aa (Hk fmt hkn B g (P+1) w1 P6.out (by omega));have hf2:1+(r:Int)=fmt:=hf.symm;clear hf hr;go_wp2_with fail;refine hdata.out.mono ?_;rintro e w2 ⟨data,rfl,⟨p,us,hdt,hmu,mT,km⟩,hds,hG2,hk2⟩;have HG2:=aa hG2;have iO:=aa (aW Qe.out hk2 (λ_ e=>.inl e));have k7:=aa ((hk2.block w.1.size (ae Ad.out) (by simp;omega)).trans Ad.out);have Ov:=aa (λW=>IA data W (R8 fmt hkn) (by omega));clear hG2 hk2 P6 Qe Ad hdata;go_wp2_with fail;refine(Ov.out _).mono ?_;rintro e w3 ⟨hu3,h3⟩;have iR:=St.aC data;have hpl:(p++St.bZ us).length<=25000:=by rw[<-hdt,iR];exact hds
 have hS:=St.qZ hmu (λu hx=>by obtain⟨f,qs,c,h,_⟩:=km u hx;exact⟨f,qs,c,h⟩) (by omega);rw[hdt,hS]at h3;have HF:=aa (show j4 fmt (St.bI p us)from⟨p,us,rfl,hmu,by rw[St.ll];exact hpl,km⟩);clear hmu km hdt hS;generalize St.bI p us=ps at h3 HF;have kk:=aa (HG2.out.ai hu3);have gu:=aa (cm iO.out hu3);have hb3:=(hu3.below.block w.1.size (ae k7.out)).trans k7.out;have tI:=aa hb3;have d0:w3.cell? ⟨w.1.size,0,UW⟩=UX (UM US 0):=ak hb3 0;have d1:w3.cell? ⟨w.1.size,1,UW⟩=UX (UO UW 0 0):=ak hb3 1;have f0:w3.frozen? ⟨w.1.size,0,UW⟩=false:=bk hb3 0;have f1:w3.frozen? ⟨w.1.size,1,UW⟩=false:=bk hb3 1;have fM:=ae hb3;haveI:af w.1.size w3:=af.of fM;clear hb3 hu3 HG2 iO k7 Ov
 have fin:∀(W V:World) (fm:Int) (A:Option Addr) (qs:List St.Pt) (c:Nat) (u v:Value),j4 fm qs->qs.length<=c->c<=9223372036854775807->bn W A qs->ac w3 W->ac ((W.setCell ⟨w.1.size,0,UW⟩ u).setCell ⟨w.1.size,1,UW⟩ v) V->∃(fmt:Int) (A':Option Addr) (c':Nat) (ps:List St.Pt),Ending.returned (.agg #[UM US fm,UO A qs.length c])=.returned (.agg #[UM US fmt,UO A' ps.length c'])/\j4 fmt ps/\bn V A' ps/\ps.length<=c'/\c'<=9223372036854775807/\w.grownBy V (UX g):=
  λW V fm A qs c u v h1 h3 h4 h2 hu hV=>⟨fm,A,c,qs,rfl,h1,(gQ h2 ((hu.below.block w.1.size fM).trans tI.out) u v).ai hV,h3,h4,cm (bO (bO (cm gu.out hu) ⟨w.1.size,0,UW⟩ _ (.inr (Nat.le_refl _))) ⟨w.1.size,1,UW⟩ _ (.inr (Nat.le_refl _))) hV⟩
 have gF:=aa fin;clear fin;rcases h3 with⟨_,A,c,rfl,hP,h1,h2⟩|⟨he,_⟩
 ·have HP:=aa hP;simp only at h1 |-;clear hP hf2;go_wp2;refine bodyPost_ret (v:=.agg #[UM US fmt,UO A ps.length c]) ?_ rfl ?_
  ·simp[results,Tryz.results58,go_sem,d0,d1]
  exact gF.out w3 _ fmt A ps c _ _ HF.out h1 h2 HP.out (ac.refl _) (uZ)
 exact absurd rfl he
def zZ(w:World)(e:Ending)(w':World):Prop:=
 ∃(fmt:Int) (A:Option Addr) (c:Nat) (ps:List St.Pt),e=.returned (.agg #[UM US fmt,UO A ps.length c])/\j4 fmt ps/\bn w' A ps/\ps.length<=c/\c<=9223372036854775807/\ac w w'
theorem Cv(A:Option Addr)(n c:Nat)(zs:List Int)(w:World)(hz:zs.length=n)(hn:n<=9223372036854775807)(hI:iv w A zs) :
  Calls Tryz.prog 20 #[UO A n c] w (zZ w):=by
 have hw1:ac w (w.alloc (.cells #[UM US 0,UO UW 0 0] 25)):=uZ;have JZ:=aa (Hr _ _ 0 _ (bK.fresh (w:=w.alloc (.cells #[UM US 0,UO UW 0 0] 25)) (c:=c) (T:=61) hn hz (hI.ai hw1)) (by omega));rw[show(w.alloc (.cells #[UM US 0,UO UW 0 0] 25)).1.size=w.1.size+1 by simp]at JZ;clear hI;go_enter Tryz.func20,Tryz.ntmps20;go_wp2_with fail;refine JZ.out.mono ?_;rintro e w2 ⟨fmt,A2,c2,ps,rfl,hF,hP,h1,h2,hk⟩;have hu2:ac w w2:=((ac.refl w).alloc _ |>.alloc _).vV hk (λg e=>by cases e;omega);have hb2:=(hk.block w.1.size (by simp;omega) (by simp)).trans ((((ac.refl _).alloc _).below.block w.1.size (by simp)).trans (heap_alloc_new w (.cells #[UM US 0,UO UW 0 0] 25)));have d0:w2.cell? ⟨w.1.size,0,UW⟩=UX (UM US 0):=ak hb2 0;have d1:w2.cell? ⟨w.1.size,1,UW⟩=UX (UO UW 0 0):=ak hb2 1;have f0:w2.frozen? ⟨w.1.size,0,UW⟩=false:=bk hb2 0;have f1:w2.frozen? ⟨w.1.size,1,UW⟩=false:=bk hb2 1;haveI:af w.1.size w2:=af.of (ae hb2)
 have HE:=aa (λu v=>(show zZ w (.returned (.agg #[UM US fmt,UO A2 ps.length c2])) ((w2.setCell ⟨w.1.size,0,UW⟩ u).setCell ⟨w.1.size,1,UW⟩ v)from
  ⟨fmt,A2,c2,ps,rfl,hF,gQ hP hb2 u v,h1,h2,(hu2.setCell (p:=⟨w.1.size,0,UW⟩) (Nat.le_refl _) u).setCell (p:=⟨w.1.size,1,UW⟩) (Nat.le_refl _) v⟩))
 clear hF hP hk hu2 hb2 JZ;go_wp2;refine bodyPost_ret (v:=.agg #[UM US fmt,UO A2 ps.length c2]) ?_ rfl ?_
 ·simp[results,Tryz.results20,go_sem,d0,d1]
 exact HE.out _ _
