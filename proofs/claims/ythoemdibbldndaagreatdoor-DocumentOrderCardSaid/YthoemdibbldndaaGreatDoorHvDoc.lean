/- The contracts of bitextmake.Document and of the document's laws' maker: a document in the. -/
import Derived.Test.YthoemdibbldndaaGreatDoorHvr
import Derived.Test.YthoemdibbldndaaGreatDoorGJ
import Derived.Test.YthoemdibbldndaaGreatDoorGK
set_option linter.all false
set_option maxHeartbeats 0
set_option maxRecDepth 20000
open Go.Value renaming int->Yp,slice->Yr
open Go.IntKind renaming i64->Yv
open Option renaming none->Yy,some->Yz
namespace Go.Proofs.YthoemdibbldndaaGreatDoor
open Go.RowKit
theorem Kz(fmt:Int)(hk:fmt=1\/fmt=2\/fmt=3)(B g P:Nat)(w:World)(hG:bp w B g P)(hP:P<=10000) :
  Calls Tryz.prog 100 #[.pointer (Yz ⟨g,0,Yy⟩),Yp Yv fmt,Yp Yv 4] w λe w'=>∃data:ByteArray,e=.returned (.string data)/\Cg fmt 4 data/\data.size<=25000/\bp w' B g (P+1602)/\w.grownBy w' (Yz g):=by
 rcases hk with rfl|rfl|rfl
 ·refine(Ik B g P 4 w hG hP (by omega)).mono ?_;rintro e w' ⟨data,rfl,h0,h1,h2,h3⟩;exact⟨data,rfl,h0,by omega,h2.le (by omega),h3⟩
 ·refine(Il B g P 4 w hG hP (by omega)).mono ?_;rintro e w' ⟨data,rfl,h0,h1,h2,h3⟩;exact⟨data,rfl,h0,by omega,h2.le (by omega),h3⟩
 refine(Im B g P 4 w hG hP (by omega)).mono ?_;rintro e w' ⟨data,rfl,h0,h1,h2,h3⟩;exact⟨data,rfl,h0,by omega,h2.le (by omega),h3⟩
theorem KE(B g P:Nat)(w:World)(hG:bp w B g P)(hP:P<=9000) :
  Calls Tryz.prog 58 #[.pointer (Yz ⟨g,0,Yy⟩),Yp Yv 4] w λe w'=>∃(fmt:Int) (A:Option Addr) (c:Nat) (ps:List St.Pt),e=.returned (.agg #[Yp Yv fmt,Yr A ps.length c])/\kF fmt ps/\a8 w' A ps/\ps.length<=c/\c<=9223372036854775807/\w.grownBy w' (Yz g):=by
 have HG:=aa hG;obtain⟨kg,hB⟩:=hG.lt;clear hG;go_enter Tryz.func58,Tryz.ntmps58;go_wp2_with fail;refine(bW B g P 3 _ (HG.out.ai uZ) (by omega) (by omega) (by omega)).mono ?_;rintro e w1 ⟨r,rfl,hr,Km,hk1⟩;have xf:=aa Km;have Aj:=aa (aN (ac.gb (uZ:ac w (w.alloc (.cells #[Yp Yv 0,Yr Yy 0 0] 25))) (Yz g)) hk1 (λx e=>Or.inl e));have CK:=aa ((hk1.block w.1.size (by simp) (by simp;omega)).trans (heap_alloc_new w (.cells #[Yp Yv 0,Yr Yy 0 0] 25)));clear Km hk1;obtain⟨fmt,hf⟩:∃fmt:Int,fmt=1+(r:Int):=⟨_,rfl⟩;have hkn:fmt=1\/fmt=2\/fmt=3:=by omega
 have hdata:=aa (Kz fmt hkn B g (P+1) w1 xf.out (by omega));have hf2:1+(r:Int)=fmt:=hf.symm;clear hf hr;go_wp2_with fail;refine hdata.out.mono ?_;rintro e w2 ⟨data,rfl,⟨p,us,n9,hmu,mM,jl⟩,hds,hG2,hk2⟩;have HG2:=aa hG2;have gi:=aa (aN Aj.out hk2 (λ_ e=>.inl e));have lM:=aa ((hk2.block w.1.size (ae CK.out) (by simp;omega)).trans CK.out);have RI:=aa (λW=>Lj data W (Vw fmt hkn) (by omega));clear hG2 hk2 xf Aj CK hdata;go_wp2_with fail;refine(RI.out _).mono ?_;rintro e w3 ⟨hu3,h3⟩;have jj:=St.aB data;have hpl:(p++St.bX us).length<=25000:=by rw[<-n9,jj];exact hds
 have hS:=St.sk hmu (λu hx=>by obtain⟨f,qs,c,h,_⟩:=jl u hx;exact⟨f,qs,c,h⟩) (by omega);rw[n9,hS]at h3;have HF:=aa (show kF fmt (St.bc p us)from⟨p,us,rfl,hmu,by rw[St.jn];exact hpl,jl⟩);clear hmu jl n9 hS;generalize St.bc p us=ps at h3 HF;have iG:=aa (HG2.out.ai hu3);have fL:=aa (bO gi.out hu3);have hb3:=(hu3.below.block w.1.size (ae lM.out)).trans lM.out;have pN:=aa hb3;have d0:w3.cell? ⟨w.1.size,0,Yy⟩=Yz (Yp Yv 0):=aj hb3 0;have d1:w3.cell? ⟨w.1.size,1,Yy⟩=Yz (Yr Yy 0 0):=aj hb3 1;have f0:w3.frozen? ⟨w.1.size,0,Yy⟩=false:=bu hb3 0;have f1:w3.frozen? ⟨w.1.size,1,Yy⟩=false:=bu hb3 1;have gf:=ae hb3;haveI:af w.1.size w3:=af.of gf;clear hb3 hu3 HG2 gi lM RI
 have fin:∀(W V:World) (fm:Int) (A:Option Addr) (qs:List St.Pt) (c:Nat) (u v:Value),kF fm qs->qs.length<=c->c<=9223372036854775807->a8 W A qs->ac w3 W->ac ((W.setCell ⟨w.1.size,0,Yy⟩ u).setCell ⟨w.1.size,1,Yy⟩ v) V->∃(fmt:Int) (A':Option Addr) (c':Nat) (ps:List St.Pt),Ending.returned (.agg #[Yp Yv fm,Yr A qs.length c])=.returned (.agg #[Yp Yv fmt,Yr A' ps.length c'])/\kF fmt ps/\a8 V A' ps/\ps.length<=c'/\c'<=9223372036854775807/\w.grownBy V (Yz g):=
  λW V fm A qs c u v h1 h3 h4 h2 hu hV=>⟨fm,A,c,qs,rfl,h1,(fG h2 ((hu.below.block w.1.size gf).trans pN.out) u v).ai hV,h3,h4,bO (bU (bU (bO fL.out hu) ⟨w.1.size,0,Yy⟩ _ (.inr (Nat.le_refl _))) ⟨w.1.size,1,Yy⟩ _ (.inr (Nat.le_refl _))) hV⟩
 have il:=aa fin;clear fin;rcases h3 with⟨_,A,c,rfl,hP,h1,h2⟩|⟨he,_⟩
 ·have HP:=aa hP;simp only at h1 |-;clear hP hf2;go_wp2;refine bodyPost_ret (v:=.agg #[Yp Yv fmt,Yr A ps.length c]) ?_ rfl ?_
  ·simp[results,Tryz.results58,go_sem,d0,d1]
  exact il.out w3 _ fmt A ps c _ _ HF.out h1 h2 HP.out (ac.refl _) (uZ)
 exact absurd rfl he
def CH(w:World)(e:Ending)(w':World):Prop:=
 ∃(fmt:Int) (A:Option Addr) (c:Nat) (ps:List St.Pt),e=.returned (.agg #[Yp Yv fmt,Yr A ps.length c])/\kF fmt ps/\a8 w' A ps/\ps.length<=c/\c<=9223372036854775807/\ac w w'
theorem vw(A:Option Addr)(n c:Nat)(zs:List Int)(w:World)(hz:zs.length=n)(hn:n<=9223372036854775807)(hI:fu w A zs) :
  Calls Tryz.prog 20 #[Yr A n c] w (CH w):=by
 have hw1:ac w (w.alloc (.cells #[Yp Yv 0,Yr Yy 0 0] 25)):=uZ;have MM:=aa (KE _ _ 0 _ (bp.fresh (w:=w.alloc (.cells #[Yp Yv 0,Yr Yy 0 0] 25)) (c:=c) (T:=61) hn hz (hI.ai hw1)) (by omega));rw[show(w.alloc (.cells #[Yp Yv 0,Yr Yy 0 0] 25)).1.size=w.1.size+1 by simp]at MM;clear hI;go_enter Tryz.func20,Tryz.ntmps20;go_wp2_with fail;refine MM.out.mono ?_;rintro e w2 ⟨fmt,A2,c2,ps,rfl,hF,hP,h1,h2,hk⟩;have hu2:ac w w2:=((ac.refl w).alloc _ |>.alloc _).sr hk (λg e=>by cases e;omega);have hb2:=(hk.block w.1.size (by simp;omega) (by simp)).trans ((((ac.refl _).alloc _).below.block w.1.size (by simp)).trans (heap_alloc_new w (.cells #[Yp Yv 0,Yr Yy 0 0] 25)));have d0:w2.cell? ⟨w.1.size,0,Yy⟩=Yz (Yp Yv 0):=aj hb2 0;have d1:w2.cell? ⟨w.1.size,1,Yy⟩=Yz (Yr Yy 0 0):=aj hb2 1;have f0:w2.frozen? ⟨w.1.size,0,Yy⟩=false:=bu hb2 0;have f1:w2.frozen? ⟨w.1.size,1,Yy⟩=false:=bu hb2 1;haveI:af w.1.size w2:=af.of (ae hb2)
 have HE:=aa (λu v=>(show CH w (.returned (.agg #[Yp Yv fmt,Yr A2 ps.length c2])) ((w2.setCell ⟨w.1.size,0,Yy⟩ u).setCell ⟨w.1.size,1,Yy⟩ v)from
  ⟨fmt,A2,c2,ps,rfl,hF,fG hP hb2 u v,h1,h2,(hu2.setCell (p:=⟨w.1.size,0,Yy⟩) (Nat.le_refl _) u).setCell (p:=⟨w.1.size,1,Yy⟩) (Nat.le_refl _) v⟩))
 clear hF hP hk hu2 hb2 MM;go_wp2;refine bodyPost_ret (v:=.agg #[Yp Yv fmt,Yr A2 ps.length c2]) ?_ rfl ?_
 ·simp[results,Tryz.results20,go_sem,d0,d1]
 exact HE.out _ _
