/- The contracts of bitextmake.Document and of the document's laws' maker: a document in the. -/
import Derived.Test.YthoemdibbldndaaGreatDoorHvr
import Derived.Test.YthoemdibbldndaaGreatDoorGJ
import Derived.Test.YthoemdibbldndaaGreatDoorGK
set_option linter.all false
set_option maxHeartbeats 0
set_option maxRecDepth 20000
open Go.Value renaming int->Yh,slice->Yj
open Go.IntKind renaming i64->Yn
open Option renaming none->Yq,some->Yr
namespace Go.Proofs.YthoemdibbldndaaGreatDoor
open Go.RowKit
theorem JO(fmt:Int)(hk:fmt=1\/fmt=2\/fmt=3)(B g P:Nat)(w:World)(hG:bp w B g P)(hP:P<=10000) :
  Calls Tryz.prog 100 #[.pointer (Yr ⟨g,0,Yq⟩),Yh Yn fmt,Yh Yn 4] w λe w'=>∃data:ByteArray,e=.returned (.string data)/\BB fmt 4 data/\data.size<=25000/\bp w' B g (P+1602)/\w.grownBy w' (Yr g):=by
 rcases hk with rfl|rfl|rfl
 ·refine(G4 B g P 4 w hG hP (by omega)).mono ?_;rintro e w' ⟨data,rfl,h0,h1,h2,h3⟩;exact⟨data,rfl,h0,by omega,h2.le (by omega),h3⟩
 ·refine(G5 B g P 4 w hG hP (by omega)).mono ?_;rintro e w' ⟨data,rfl,h0,h1,h2,h3⟩;exact⟨data,rfl,h0,by omega,h2.le (by omega),h3⟩
 refine(G6 B g P 4 w hG hP (by omega)).mono ?_;rintro e w' ⟨data,rfl,h0,h1,h2,h3⟩;exact⟨data,rfl,h0,by omega,h2.le (by omega),h3⟩
theorem JU(B g P:Nat)(w:World)(hG:bp w B g P)(hP:P<=9000) :
  Calls Tryz.prog 58 #[.pointer (Yr ⟨g,0,Yq⟩),Yh Yn 4] w λe w'=>∃(fmt:Int) (A:Option Addr) (c:Nat) (ps:List St.Pt),e=.returned (.agg #[Yh Yn fmt,Yj A ps.length c])/\kD fmt ps/\bk w' A ps/\ps.length<=c/\c<=9223372036854775807/\w.grownBy w' (Yr g):=by
 have HG:=aa hG;obtain⟨ka,hB⟩:=hG.lt;clear hG;go_enter Tryz.func58,Tryz.ntmps58;go_wp2_with fail;refine(bR B g P 3 _ (HG.out.ai uZ) (by omega) (by omega) (by omega)).mono ?_;rintro e w1 ⟨r,rfl,hr,JC,hk1⟩;have wC:=aa JC;have zv:=aa (aO (ac.gb (uZ:ac w (w.alloc (.cells #[Yh Yn 0,Yj Yq 0 0] 25))) (Yr g)) hk1 (λx e=>Or.inl e));have B6:=aa ((hk1.block w.1.size (by simp) (by simp;omega)).trans (heap_alloc_new w (.cells #[Yh Yn 0,Yj Yq 0 0] 25)));clear JC hk1;obtain⟨fmt,hf⟩:∃fmt:Int,fmt=1+(r:Int):=⟨_,rfl⟩;have hkn:fmt=1\/fmt=2\/fmt=3:=by omega
 have hdata:=aa (JO fmt hkn B g (P+1) w1 wC.out (by omega));have hf2:1+(r:Int)=fmt:=hf.symm;clear hf hr;go_wp2_with fail;refine hdata.out.mono ?_;rintro e w2 ⟨data,rfl,⟨p,us,hdt,hmu,mN,kg⟩,hds,hG2,hk2⟩;have HG2:=aa hG2;have fX:=aa (aO zv.out hk2 (λ_ e=>.inl e));have lD:=aa ((hk2.block w.1.size (ae B6.out) (by simp;omega)).trans B6.out);have Ro:=aa (λW=>Kx data W (Vm fmt hkn) (by omega));clear hG2 hk2 wC zv B6 hdata;go_wp2_with fail;refine(Ro.out _).mono ?_;rintro e w3 ⟨hu3,h3⟩;have jf:=St.aC data;have hpl:(p++St.bW us).length<=25000:=by rw[<-hdt,jf];exact hds
 have hS:=St.rZ hmu (λu hx=>by obtain⟨f,qs,c,h,_⟩:=kg u hx;exact⟨f,qs,c,h⟩) (by omega);rw[hdt,hS]at h3;have HF:=aa (show kD fmt (St.bo p us)from⟨p,us,rfl,hmu,by rw[St.kq];exact hpl,kg⟩);clear hmu kg hdt hS;generalize St.bo p us=ps at h3 HF;have ix:=aa (HG2.out.ai hu3);have fH:=aa (bK fX.out hu3);have hb3:=(hu3.below.block w.1.size (ae lD.out)).trans lD.out;have pE:=aa hb3;have d0:w3.cell? ⟨w.1.size,0,Yq⟩=Yr (Yh Yn 0):=aj hb3 0;have d1:w3.cell? ⟨w.1.size,1,Yq⟩=Yr (Yj Yq 0 0):=aj hb3 1;have f0:w3.frozen? ⟨w.1.size,0,Yq⟩=false:=bz hb3 0;have f1:w3.frozen? ⟨w.1.size,1,Yq⟩=false:=bz hb3 1;have eS:=ae hb3;haveI:af w.1.size w3:=af.of eS;clear hb3 hu3 HG2 fX lD Ro
 have fin:∀(W V:World) (fm:Int) (A:Option Addr) (qs:List St.Pt) (c:Nat) (u v:Value),kD fm qs->qs.length<=c->c<=9223372036854775807->bk W A qs->ac w3 W->ac ((W.setCell ⟨w.1.size,0,Yq⟩ u).setCell ⟨w.1.size,1,Yq⟩ v) V->∃(fmt:Int) (A':Option Addr) (c':Nat) (ps:List St.Pt),Ending.returned (.agg #[Yh Yn fm,Yj A qs.length c])=.returned (.agg #[Yh Yn fmt,Yj A' ps.length c'])/\kD fmt ps/\bk V A' ps/\ps.length<=c'/\c'<=9223372036854775807/\w.grownBy V (Yr g):=
  λW V fm A qs c u v h1 h3 h4 h2 hu hV=>⟨fm,A,c,qs,rfl,h1,(gH h2 ((hu.below.block w.1.size eS).trans pE.out) u v).ai hV,h3,h4,bK (bQ (bQ (bK fH.out hu) ⟨w.1.size,0,Yq⟩ _ (.inr (Nat.le_refl _))) ⟨w.1.size,1,Yq⟩ _ (.inr (Nat.le_refl _))) hV⟩
 have gX:=aa fin;clear fin;rcases h3 with⟨_,A,c,rfl,hP,h1,h2⟩|⟨he,_⟩
 ·have HP:=aa hP;simp only at h1 |-;clear hP hf2;go_wp2;refine bodyPost_ret (v:=.agg #[Yh Yn fmt,Yj A ps.length c]) ?_ rfl ?_
  ·simp[results,Tryz.results58,go_sem,d0,d1]
  exact gX.out w3 _ fmt A ps c _ _ HF.out h1 h2 HP.out (ac.refl _) (uZ)
 exact absurd rfl he
def B0(w:World)(e:Ending)(w':World):Prop:=
 ∃(fmt:Int) (A:Option Addr) (c:Nat) (ps:List St.Pt),e=.returned (.agg #[Yh Yn fmt,Yj A ps.length c])/\kD fmt ps/\bk w' A ps/\ps.length<=c/\c<=9223372036854775807/\ac w w'
theorem Ej(A:Option Addr)(n c:Nat)(zs:List Int)(w:World)(hz:zs.length=n)(hn:n<=9223372036854775807)(hI:fq w A zs) :
  Calls Tryz.prog 20 #[Yj A n c] w (B0 w):=by
 have hw1:ac w (w.alloc (.cells #[Yh Yn 0,Yj Yq 0 0] 25)):=uZ;have LW:=aa (JU _ _ 0 _ (bp.fresh (w:=w.alloc (.cells #[Yh Yn 0,Yj Yq 0 0] 25)) (c:=c) (T:=61) hn hz (hI.ai hw1)) (by omega));rw[show(w.alloc (.cells #[Yh Yn 0,Yj Yq 0 0] 25)).1.size=w.1.size+1 by simp]at LW;clear hI;go_enter Tryz.func20,Tryz.ntmps20;go_wp2_with fail;refine LW.out.mono ?_;rintro e w2 ⟨fmt,A2,c2,ps,rfl,hF,hP,h1,h2,hk⟩;have hu2:ac w w2:=((ac.refl w).alloc _ |>.alloc _).uG hk (λg e=>by cases e;omega);have hb2:=(hk.block w.1.size (by simp;omega) (by simp)).trans ((((ac.refl _).alloc _).below.block w.1.size (by simp)).trans (heap_alloc_new w (.cells #[Yh Yn 0,Yj Yq 0 0] 25)));have d0:w2.cell? ⟨w.1.size,0,Yq⟩=Yr (Yh Yn 0):=aj hb2 0;have d1:w2.cell? ⟨w.1.size,1,Yq⟩=Yr (Yj Yq 0 0):=aj hb2 1;have f0:w2.frozen? ⟨w.1.size,0,Yq⟩=false:=bz hb2 0;have f1:w2.frozen? ⟨w.1.size,1,Yq⟩=false:=bz hb2 1;haveI:af w.1.size w2:=af.of (ae hb2)
 have HE:=aa (λu v=>(show B0 w (.returned (.agg #[Yh Yn fmt,Yj A2 ps.length c2])) ((w2.setCell ⟨w.1.size,0,Yq⟩ u).setCell ⟨w.1.size,1,Yq⟩ v)from
  ⟨fmt,A2,c2,ps,rfl,hF,gH hP hb2 u v,h1,h2,(hu2.setCell (p:=⟨w.1.size,0,Yq⟩) (Nat.le_refl _) u).setCell (p:=⟨w.1.size,1,Yq⟩) (Nat.le_refl _) v⟩))
 clear hF hP hk hu2 hb2 LW;go_wp2;refine bodyPost_ret (v:=.agg #[Yh Yn fmt,Yj A2 ps.length c2]) ?_ rfl ?_
 ·simp[results,Tryz.results20,go_sem,d0,d1]
 exact HE.out _ _
