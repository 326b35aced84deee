/- The contract of the reference's markup element: what it gives is St.markL. -/
import Derived.Test.YthoemdibbldndaaGreatDoorRMk
import Derived.Test.YthoemdibbldndaaGreatDoorRDecT
set_option linter.all false
set_option maxHeartbeats 0
set_option maxRecDepth 20000
open Go.Value renaming int->UM,string->UN,tuple->UR
open Go.IntKind renaming i64->US
namespace Go.Proofs.YthoemdibbldndaaGreatDoor
open Go.RowKit
theorem wh(W:World):(Instr.index 224 (.agg #[UN ⟨#[38,108,116,59,60]⟩,UN ⟨#[38,103,116,59,62]⟩,UN ⟨#[38,97,109,112,59,38]⟩,UN ⟨#[38,108,98,59,123]⟩,UN ⟨#[38,114,98,59,125]⟩]) (UM US 0)).run Tryz.prog W=.ok (UN ⟨#[38,108,116,59,60]⟩) W /\
  (Instr.index 224 (.agg #[UN ⟨#[38,108,116,59,60]⟩,UN ⟨#[38,103,116,59,62]⟩,UN ⟨#[38,97,109,112,59,38]⟩,UN ⟨#[38,108,98,59,123]⟩,UN ⟨#[38,114,98,59,125]⟩]) (UM US 1)).run Tryz.prog W=.ok (UN ⟨#[38,103,116,59,62]⟩) W /\
  (Instr.index 224 (.agg #[UN ⟨#[38,108,116,59,60]⟩,UN ⟨#[38,103,116,59,62]⟩,UN ⟨#[38,97,109,112,59,38]⟩,UN ⟨#[38,108,98,59,123]⟩,UN ⟨#[38,114,98,59,125]⟩]) (UM US 2)).run Tryz.prog W=.ok (UN ⟨#[38,97,109,112,59,38]⟩) W /\
  (Instr.index 224 (.agg #[UN ⟨#[38,108,116,59,60]⟩,UN ⟨#[38,103,116,59,62]⟩,UN ⟨#[38,97,109,112,59,38]⟩,UN ⟨#[38,108,98,59,123]⟩,UN ⟨#[38,114,98,59,125]⟩]) (UM US 3)).run Tryz.prog W=.ok (UN ⟨#[38,108,98,59,123]⟩) W /\
  (Instr.index 224 (.agg #[UN ⟨#[38,108,116,59,60]⟩,UN ⟨#[38,103,116,59,62]⟩,UN ⟨#[38,97,109,112,59,38]⟩,UN ⟨#[38,108,98,59,123]⟩,UN ⟨#[38,114,98,59,125]⟩]) (UM US 4)).run Tryz.prog W=.ok (UN ⟨#[38,114,98,59,125]⟩) W:=
 ⟨by kernel_rfl,by kernel_rfl,by kernel_rfl,by kernel_rfl,by kernel_rfl⟩
theorem Mj:(⟨#[38,108,116,59,60]⟩:ByteArray).extract 0 4=⟨#[38,108,116,59]⟩/\(⟨#[38,103,116,59,62]⟩:ByteArray).extract 0 4=⟨#[38,103,116,59]⟩/\(⟨#[38,97,109,112,59,38]⟩:ByteArray).extract 0 5=⟨#[38,97,109,112,59]⟩/\(⟨#[38,108,98,59,123]⟩:ByteArray).extract 0 4=⟨#[38,108,98,59]⟩/\(⟨#[38,114,98,59,125]⟩:ByteArray).extract 0 4=⟨#[38,114,98,59]⟩:=⟨by decide,by decide,by decide,by decide,by decide⟩
theorem uf(w:World)(b:Nat){a0 a1 a2:Value}{T:TypeId}(h:w.1[b]?=some (.cells #[a0,a1,a2] T))(v0 v1 v2:Value) :
  (((w.setCell ⟨b,0,none⟩ v0).setCell ⟨b,1,none⟩ v1).setCell ⟨b,2,none⟩ v2).1[b]?=some (.cells #[v0,v1,v2] T):=
 heap_setCell_same _ _ 2 _ _ v2 (heap_setCell_same _ _ 1 _ _ v1 (heap_setCell_same _ _ 0 _ _ v0 h))
theorem ue(W:World)(b:Nat){v0 v1 v2:Value}{T:TypeId}(h:W.1[b]?=some (.cells #[v0,v1,v2] T)):W.cell? ⟨b,0,none⟩=some v0/\W.cell? ⟨b,1,none⟩=some v1/\W.cell? ⟨b,2,none⟩=some v2/\b<W.1.size:=
 ⟨ak h 0,ak h 1,ak h 2,ae h⟩
theorem CP(s:ByteArray)(w:World)(hs:s.size<=4611686018427387904)(h0:1<=s.size) :
  Calls Tryz.prog 144 #[UN s] w λe w'=>e=.returned (cd (St.bS s.1.1))/\ac w w':=by
 have hcr:s.1.1=s[0] :: s.1.1.drop 1:=St.fo s (by omega);have z0:0<s.size:=by omega
 by_cases gJ:s[0].toNat=60
 ·have hsl:=St.nS (r:=s.1.1.drop 1) gJ;rw[<-hcr]at hsl;have NL:((s[0].toNat:Int)==60)=true:=by simp;omega
  have dK:=aa (λW=>B6 s W hs h0);unfold St.sI at hsl;clear hcr gJ;cases hq:St.fR s.1.1 with
  | none=>
   rw[hq]at hsl dK;have bA:=aa hsl;have Eo:Hid (∀W,Calls Tryz.prog 137 #[UN s] W λe w'=>e=.returned (UR #[.agg #[UM US 0,UN ⟨#[]⟩,UM US 0],UM US 0])/\ac W w'):=dK;clear hsl hq dK;go_enter Tryz.func144,Tryz.ntmps144;go_wp2_with fail;refine(Eo.out _).mono ?_;rintro e w2 ⟨rfl,hu⟩;have hbr:=(hu.below.block w.1.size (by simp)).trans (aR w (.cells #[UM US 0,UN ⟨#[]⟩,UM US 0] 36) w.1.size rfl);have r0:w2.cell? ⟨w.1.size,0,none⟩=some (UM US 0):=ak hbr 0;have r1:w2.cell? ⟨w.1.size,1,none⟩=some (UN ⟨#[]⟩):=ak hbr 1;have r2:w2.cell? ⟨w.1.size,2,none⟩=some (UM US 0):=ak hbr 2;have p0:w2.frozen? ⟨w.1.size,0,none⟩=false:=bk hbr 0;have p1:w2.frozen? ⟨w.1.size,1,none⟩=false:=bk hbr 1;have p2:w2.frozen? ⟨w.1.size,2,none⟩=false:=bk hbr 2;haveI:af w.1.size w2:=af.of (ae hbr);have HU:=aa (((ac.refl w).alloc _).trans hu);have HB:=aa (uf w2 w.1.size hbr (UM US 0) (UN ⟨#[]⟩) (UM US 0));clear hu hbr;go_wp2;have Hc:=((HU.out.setCell (p:=⟨w.1.size,0,none⟩) (Nat.le_refl _) (UM US 0)).setCell (p:=⟨w.1.size,1,none⟩) (Nat.le_refl _) (UN ⟨#[]⟩)).setCell (p:=⟨w.1.size,2,none⟩) (Nat.le_refl _) (UM US 0);obtain⟨f0,f1,f2,f3⟩:=ue _ _ HB.out;generalize((w2.setCell ⟨w.1.size,0,none⟩ (UM US 0)).setCell ⟨w.1.size,1,none⟩ (UN ⟨#[]⟩)).setCell ⟨w.1.size,2,none⟩ (UM US 0)=W5 at *;haveI:af w.1.size W5:=af.of f3;refine bodyPost_ret (v:=cd none) (by simp[results,Tryz.results144,go_sem,cd,f0,f1,f2]) rfl ⟨?_,Hc.trans uZ⟩;rw[bA.out]
  | some q=>
   obtain⟨k,t,n⟩:=q;rw[hq]at hsl dK;simp only at hsl;have hnn:2<=n:=(St.kh hq).2.1
   have htl:t.length<=4611686018427387904:=by
    have:=St.kh hq
    rw[St.aC]at this;omega
   obtain⟨tb,fF⟩:∃tb:ByteArray,(⟨t.toArray⟩:ByteArray)=tb:=⟨_,rfl⟩;obtain⟨nb,hnb⟩:∃nb:ByteArray,(⟨(St.nameOf t).toArray⟩:ByteArray)=nb:=⟨_,rfl⟩;have gm:tb.1.1=t:=by rw[<-fF]
   have bl:=aa (λW=>kc t W htl);have Eo:Hid (∀W,Calls Tryz.prog 137 #[UN s] W λe w'=>e=.returned (UR #[.agg #[UM US k,UN ⟨t.toArray⟩,UM US 0],UM US n])/\ac W w'):=dK;have hib:=λW=>sa ⟨(St.nameOf t).toArray⟩ W
   have zn:((n:Int)==0)=false:=by simp;omega
   cases hb:St.bu (St.nameOf t)
   all_goals
    rw[hb]at hsl;rw[show St.bu (⟨(St.nameOf t).toArray⟩:ByteArray).1.1=_ from hb]at hib;have tK:=aa hib;have bA:=aa hsl;rw[fF]at Eo;rw[fF,hnb]at bl;rw[hnb]at tK;clear hsl hq hb hnb fF hib dK;go_enter Tryz.func144,Tryz.ntmps144;go_wp2_with fail;refine(Eo.out _).mono ?_;rintro e w2 ⟨rfl,hu⟩;have HU:=aa hu;clear hu;go_wp2_with fail;refine(bl.out _).mono ?_;rintro e w3 ⟨rfl,hu3⟩;have dL:=(hu3.below.block w2.1.size (by simp)).trans (aR w2 (.cells #[UM US k,UN tb,UM US 0] 36) w2.1.size rfl);have x0:w3.cell? ⟨w2.1.size,0,none⟩=some (UM US k):=ak dL 0;have x1:w3.cell? ⟨w2.1.size,1,none⟩=some (UN tb):=ak dL 1;have x2:w3.cell? ⟨w2.1.size,2,none⟩=some (UM US 0):=ak dL 2;have hu0:ac (w.alloc (.cells #[UM US 0,UN ⟨#[]⟩,UM US 0] 36)) w3:=HU.out.trans (ac.trans (uZ) hu3);have hbr:=(hu0.below.block w.1.size (by simp)).trans (aR w (.cells #[UM US 0,UN ⟨#[]⟩,UM US 0] 36) w.1.size rfl);have r0:w3.cell? ⟨w.1.size,0,none⟩=some (UM US 0):=ak hbr 0;have r1:w3.cell? ⟨w.1.size,1,none⟩=some (UN ⟨#[]⟩):=ak hbr 1;have r2:w3.cell? ⟨w.1.size,2,none⟩=some (UM US 0):=ak hbr 2;have p0:w3.frozen? ⟨w.1.size,0,none⟩=false:=bk hbr 0;have p1:w3.frozen? ⟨w.1.size,1,none⟩=false:=bk hbr 1;have p2:w3.frozen? ⟨w.1.size,2,none⟩=false:=bk hbr 2;haveI:af w2.1.size w3:=af.of (ae dL);haveI:af w.1.size w3:=af.of (ae hbr);have bm:=aa (((ac.refl w).alloc _).trans hu0);have P4:=aa hbr;clear hu3 dL hbr hu0 HU;go_wp2_with fail;refine(tK.out _).mono ?_;rintro e w4 ⟨rfl,rfl⟩;go_wp2
   ·have Hc:=((bm.out.setCell (p:=⟨w.1.size,0,none⟩) (Nat.le_refl _) (UM US k)).setCell (p:=⟨w.1.size,1,none⟩) (Nat.le_refl _) (UN tb)).setCell (p:=⟨w.1.size,2,none⟩) (Nat.le_refl _) (UM US 0);obtain⟨f0,f1,f2,f3⟩:=ue _ _ (uf w3 w.1.size P4.out (UM US k) (UN tb) (UM US 0));generalize((w3.setCell ⟨w.1.size,0,none⟩ (UM US k)).setCell ⟨w.1.size,1,none⟩ (UN tb)).setCell ⟨w.1.size,2,none⟩ (UM US 0)=W5 at *;haveI:af w.1.size W5:=af.of f3;refine bodyPost_ret (v:=UR #[.agg #[UM US k,UN tb,UM US 0],UM US n]) (by simp[results,Tryz.results144,go_sem,f0,f1,f2]) rfl ⟨?_,Hc.trans uZ⟩;rw[bA.out];simp only[Bool.false_eq_true,if_false,cd,iE,<-gm,be]
   have Hc:=((bm.out.setCell (p:=⟨w.1.size,0,none⟩) (Nat.le_refl _) (UM US 0)).setCell (p:=⟨w.1.size,1,none⟩) (Nat.le_refl _) (UN ⟨#[]⟩)).setCell (p:=⟨w.1.size,2,none⟩) (Nat.le_refl _) (UM US 0);obtain⟨f0,f1,f2,f3⟩:=ue _ _ (uf w3 w.1.size P4.out (UM US 0) (UN ⟨#[]⟩) (UM US 0));generalize((w3.setCell ⟨w.1.size,0,none⟩ (UM US 0)).setCell ⟨w.1.size,1,none⟩ (UN ⟨#[]⟩)).setCell ⟨w.1.size,2,none⟩ (UM US 0)=W5 at *;haveI:af w.1.size W5:=af.of f3;refine bodyPost_ret (v:=cd none) (by simp[results,Tryz.results144,go_sem,cd,f0,f1,f2]) rfl ⟨?_,Hc.trans uZ⟩;rw[bA.out];rfl
 have NL:((s[0].toNat:Int)==60)=false:=by simp;omega
 by_cases p7:s[0].toNat=38
 ·have hsl:=St.iG (r:=s.1.1.drop 1) p7;rw[<-hcr]at hsl;have e38:((s[0].toNat:Int)==38)=true:=by simp;omega
  have h1:=λW=>gk s ⟨#[38,108,116,59]⟩ W (by omega) (by show 4<=_;omega)
  have h2:=λW=>gk s ⟨#[38,103,116,59]⟩ W (by omega) (by show 4<=_;omega)
  have h3:=λW=>gk s ⟨#[38,97,109,112,59]⟩ W (by omega) (by show 5<=_;omega)
  have h4:=λW=>gk s ⟨#[38,108,98,59]⟩ W (by omega) (by show 4<=_;omega)
  have h5:=λW=>gk s ⟨#[38,114,98,59]⟩ W (by omega) (by show 4<=_;omega)
  have hv:St.rp s.1.1=if preB ⟨#[38,108,116,59]⟩ s then some (1,[60],4)else if preB ⟨#[38,103,116,59]⟩ s then some (1,[62],4)else if preB ⟨#[38,97,109,112,59]⟩ s then some (1,[38],5)else if preB ⟨#[38,108,98,59]⟩ s then some (1,[123],4)else if preB ⟨#[38,114,98,59]⟩ s then some (1,[125],4)else none:=rfl
  rw[hv]at hsl;have i0:=λW=>(wh W).1
  have i1:=λW=>(wh W).2.1
  have i2:=λW=>(wh W).2.2.1
  have i3:=λW=>(wh W).2.2.2.1
  have i4:=λW=>(wh W).2.2.2.2
  obtain⟨x1,x2,x3,x4,x5⟩:=Mj;generalize preB ⟨#[38,108,116,59]⟩ s=b1 at h1 hsl;generalize preB ⟨#[38,103,116,59]⟩ s=b2 at h2 hsl;generalize preB ⟨#[38,97,109,112,59]⟩ s=b3 at h3 hsl;generalize preB ⟨#[38,108,98,59]⟩ s=b4 at h4 hsl;generalize preB ⟨#[38,114,98,59]⟩ s=b5 at h5 hsl;have bA:=aa hsl;have H1:=aa h1;have H2:=aa h2;have H3:=aa h3;have H4:=aa h4;have H5:=aa h5;clear hv h1 h2 h3 h4 h5 hsl hcr gJ p7
  cases b1;rotate_left 1
  ·go_enter Tryz.func144,Tryz.ntmps144;go_wp2_with fail;refine wp_loop_rounds 6 ?_;rw[rounds_succ];go_wp2_with fail;refine(H1.out _).mono ?_;rintro e w' ⟨rfl,rfl⟩;go_wp2_with fail;refine(iK 60 60 rfl _).mono ?_;rintro e w2 ⟨rfl,X,rfl⟩;go_wp2;refine bodyPost_ret (v:=cd (some (1,[60],4))) (by simp[results,Tryz.results144,go_sem,cd,iE]) rfl ⟨?_,uZ⟩;rw[bA.out];rfl
  cases b2;rotate_left 1
  ·go_enter Tryz.func144,Tryz.ntmps144;go_wp2_with fail;refine wp_loop_rounds 6 ?_;rw[rounds_succ];go_wp2_with fail;refine(H1.out _).mono ?_;rintro e w' ⟨rfl,rfl⟩;go_wp2_with fail;rw[rounds_succ];go_wp2_with fail;refine(H2.out _).mono ?_;rintro e w' ⟨rfl,rfl⟩;go_wp2_with fail;refine(iK 62 62 rfl _).mono ?_;rintro e w2 ⟨rfl,X,rfl⟩;go_wp2;refine bodyPost_ret (v:=cd (some (1,[62],4))) (by simp[results,Tryz.results144,go_sem,cd,iE]) rfl ⟨?_,uZ⟩;rw[bA.out];rfl
  cases b3;rotate_left 1
  ·go_enter Tryz.func144,Tryz.ntmps144;go_wp2_with fail;refine wp_loop_rounds 6 ?_;rw[rounds_succ];go_wp2_with fail;refine(H1.out _).mono ?_;rintro e w' ⟨rfl,rfl⟩;go_wp2_with fail;rw[rounds_succ];go_wp2_with fail;refine(H2.out _).mono ?_;rintro e w' ⟨rfl,rfl⟩;go_wp2_with fail;rw[rounds_succ];go_wp2_with fail;refine(H3.out _).mono ?_;rintro e w' ⟨rfl,rfl⟩;go_wp2_with fail;refine(iK 38 38 rfl _).mono ?_;rintro e w2 ⟨rfl,X,rfl⟩;go_wp2;refine bodyPost_ret (v:=cd (some (1,[38],5))) (by simp[results,Tryz.results144,go_sem,cd,iE]) rfl ⟨?_,uZ⟩;rw[bA.out];rfl
  cases b4;rotate_left 1
  ·go_enter Tryz.func144,Tryz.ntmps144;go_wp2_with fail;refine wp_loop_rounds 6 ?_;rw[rounds_succ];go_wp2_with fail;refine(H1.out _).mono ?_;rintro e w' ⟨rfl,rfl⟩;go_wp2_with fail;rw[rounds_succ];go_wp2_with fail;refine(H2.out _).mono ?_;rintro e w' ⟨rfl,rfl⟩;go_wp2_with fail;rw[rounds_succ];go_wp2_with fail;refine(H3.out _).mono ?_;rintro e w' ⟨rfl,rfl⟩;go_wp2_with fail;rw[rounds_succ];go_wp2_with fail;refine(H4.out _).mono ?_;rintro e w' ⟨rfl,rfl⟩;go_wp2_with fail;refine(iK 123 123 rfl _).mono ?_;rintro e w2 ⟨rfl,X,rfl⟩;go_wp2;refine bodyPost_ret (v:=cd (some (1,[123],4))) (by simp[results,Tryz.results144,go_sem,cd,iE]) rfl ⟨?_,uZ⟩;rw[bA.out];rfl
  cases b5;rotate_left 1
  ·go_enter Tryz.func144,Tryz.ntmps144;go_wp2_with fail;refine wp_loop_rounds 6 ?_;rw[rounds_succ];go_wp2_with fail;refine(H1.out _).mono ?_;rintro e w' ⟨rfl,rfl⟩;go_wp2_with fail;rw[rounds_succ];go_wp2_with fail;refine(H2.out _).mono ?_;rintro e w' ⟨rfl,rfl⟩;go_wp2_with fail;rw[rounds_succ];go_wp2_with fail;refine(H3.out _).mono ?_;rintro e w' ⟨rfl,rfl⟩;go_wp2_with fail;rw[rounds_succ];go_wp2_with fail;refine(H4.out _).mono ?_;rintro e w' ⟨rfl,rfl⟩;go_wp2_with fail;rw[rounds_succ];go_wp2_with fail;refine(H5.out _).mono ?_;rintro e w' ⟨rfl,rfl⟩;go_wp2_with fail;refine(iK 125 125 rfl _).mono ?_;rintro e w2 ⟨rfl,X,rfl⟩;go_wp2;refine bodyPost_ret (v:=cd (some (1,[125],4))) (by simp[results,Tryz.results144,go_sem,cd,iE]) rfl ⟨?_,uZ⟩;rw[bA.out];rfl
  go_enter Tryz.func144,Tryz.ntmps144;go_wp2_with fail;refine wp_loop_rounds 6 ?_;rw[rounds_succ];go_wp2_with fail;refine(H1.out _).mono ?_;rintro e w' ⟨rfl,rfl⟩;go_wp2_with fail;rw[rounds_succ];go_wp2_with fail;refine(H2.out _).mono ?_;rintro e w' ⟨rfl,rfl⟩;go_wp2_with fail;rw[rounds_succ];go_wp2_with fail;refine(H3.out _).mono ?_;rintro e w' ⟨rfl,rfl⟩;go_wp2_with fail;rw[rounds_succ];go_wp2_with fail;refine(H4.out _).mono ?_;rintro e w' ⟨rfl,rfl⟩;go_wp2_with fail;rw[rounds_succ];go_wp2_with fail;refine(H5.out _).mono ?_;rintro e w' ⟨rfl,rfl⟩;go_wp2_with fail;rw[rounds_succ];go_wp2;refine bodyPost_ret (v:=cd none) (by simp[results,Tryz.results144,go_sem,cd]) rfl ⟨?_,uZ⟩;rw[bA.out];rfl
 have e38:((s[0].toNat:Int)==38)=false:=by simp;omega
 by_cases db:s[0].toNat=123
 ·have hsl:=St.kS (r:=s.1.1.drop 1) db;rw[<-hcr]at hsl;have sj:((s[0].toNat:Int)==123)=true:=by simp;omega
  have bA:=aa hsl;have lP:=λW=>uP s W hs h0
  obtain⟨k,x,m,hv⟩:=mc ((St.cJ s.1.1).map λx=>((5:Int),x.1,x.2));have HV:=aa hv;rw[hv]at lP;have HS:=aa lP;clear hsl hcr lP hv gJ p7 db;go_enter Tryz.func144,Tryz.ntmps144;go_wp2_with (go_at_call 180;refine(HS.out _).mono ?_;rintro e w' ⟨rfl,X,rfl⟩);refine bodyPost_ret (v:=UR #[.agg #[UM US k,UN x,UM US 0],UM US m]) (by simp[results,Tryz.results144,go_sem]) rfl ⟨?_,uZ⟩;rw[bA.out,HV.out]
 have sj:((s[0].toNat:Int)==123)=false:=by simp;omega
 have hsl:=St.jO (r:=s.1.1.drop 1) gJ p7 db;rw[<-hcr]at hsl;have htx:=aa (λW=>iK s[0] (s[0].toNat:Int) rfl W);have bA:=aa hsl;clear hsl hcr gJ p7 db;go_enter Tryz.func144,Tryz.ntmps144;go_wp2_with (go_at_call 179;refine(htx.out _).mono ?_;rintro e w' ⟨rfl,X,rfl⟩);refine bodyPost_ret (v:=cd (some (1,[s[0]],1))) (by simp[results,Tryz.results144,go_sem,cd,iE]) rfl ⟨?_,uZ⟩;rw[bA.out]
theorem uB:K3 St.bS:=by
 intro l k t n h;obtain⟨hk,h1,h2,h3⟩:=St.oB h;exact⟨by omega,h1,h2,h3⟩
theorem xe:zO 1 St.bS:=by
 intro s w hs h0;obtain⟨k,x,m,hv⟩:=mc (St.bS s.1.1);have hsh:=λW=>CP s W hs h0
 rw[hv]at hsh;have HS:=aa hsh;have HV:=aa hv;clear hsh hv;go_enter Tryz.func104,Tryz.ntmps104;go_wp2_with (go_at_call 144;refine(HS.out _).mono ?_;rintro e w' ⟨rfl,X,rfl⟩);refine bodyPost_ret (v:=UR #[.agg #[UM US k,UN x,UM US 0],UM US m]) (by simp[results,Tryz.results104,go_sem]) rfl ⟨?_,uZ⟩;rw[HV.out]
