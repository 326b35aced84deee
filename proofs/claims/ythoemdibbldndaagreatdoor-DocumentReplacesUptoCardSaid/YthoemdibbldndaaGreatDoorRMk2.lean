/- The contract of the reference's markup element: what it gives is St.markL. -/
import Derived.Test.YthoemdibbldndaaGreatDoorRMk
import Derived.Test.YthoemdibbldndaaGreatDoorRDecT
set_option linter.all false
set_option maxHeartbeats 0
set_option maxRecDepth 20000
open Go.Value renaming int->VD,string->VE,tuple->VI
open Go.IntKind renaming i64->VJ
namespace Go.Proofs.YthoemdibbldndaaGreatDoor
open Go.RowKit
theorem wa(W:World):(Instr.index 224 (.agg #[VE ⟨#[38,108,116,59,60]⟩,VE ⟨#[38,103,116,59,62]⟩,VE ⟨#[38,97,109,112,59,38]⟩,VE ⟨#[38,108,98,59,123]⟩,VE ⟨#[38,114,98,59,125]⟩]) (VD VJ 0)).run Tryz.prog W=.ok (VE ⟨#[38,108,116,59,60]⟩) W /\
  (Instr.index 224 (.agg #[VE ⟨#[38,108,116,59,60]⟩,VE ⟨#[38,103,116,59,62]⟩,VE ⟨#[38,97,109,112,59,38]⟩,VE ⟨#[38,108,98,59,123]⟩,VE ⟨#[38,114,98,59,125]⟩]) (VD VJ 1)).run Tryz.prog W=.ok (VE ⟨#[38,103,116,59,62]⟩) W /\
  (Instr.index 224 (.agg #[VE ⟨#[38,108,116,59,60]⟩,VE ⟨#[38,103,116,59,62]⟩,VE ⟨#[38,97,109,112,59,38]⟩,VE ⟨#[38,108,98,59,123]⟩,VE ⟨#[38,114,98,59,125]⟩]) (VD VJ 2)).run Tryz.prog W=.ok (VE ⟨#[38,97,109,112,59,38]⟩) W /\
  (Instr.index 224 (.agg #[VE ⟨#[38,108,116,59,60]⟩,VE ⟨#[38,103,116,59,62]⟩,VE ⟨#[38,97,109,112,59,38]⟩,VE ⟨#[38,108,98,59,123]⟩,VE ⟨#[38,114,98,59,125]⟩]) (VD VJ 3)).run Tryz.prog W=.ok (VE ⟨#[38,108,98,59,123]⟩) W /\
  (Instr.index 224 (.agg #[VE ⟨#[38,108,116,59,60]⟩,VE ⟨#[38,103,116,59,62]⟩,VE ⟨#[38,97,109,112,59,38]⟩,VE ⟨#[38,108,98,59,123]⟩,VE ⟨#[38,114,98,59,125]⟩]) (VD VJ 4)).run Tryz.prog W=.ok (VE ⟨#[38,114,98,59,125]⟩) W:=
 ⟨by kernel_rfl,by kernel_rfl,by kernel_rfl,by kernel_rfl,by kernel_rfl⟩
theorem Lz:(⟨#[38,108,116,59,60]⟩:ByteArray).extract 0 4=⟨#[38,108,116,59]⟩/\(⟨#[38,103,116,59,62]⟩:ByteArray).extract 0 4=⟨#[38,103,116,59]⟩/\(⟨#[38,97,109,112,59,38]⟩:ByteArray).extract 0 5=⟨#[38,97,109,112,59]⟩/\(⟨#[38,108,98,59,123]⟩:ByteArray).extract 0 4=⟨#[38,108,98,59]⟩/\(⟨#[38,114,98,59,125]⟩:ByteArray).extract 0 4=⟨#[38,114,98,59]⟩:=⟨by decide,by decide,by decide,by decide,by decide⟩
theorem uh(w:World)(b:Nat){a0 a1 a2:Value}{T:TypeId}(h:w.1[b]?=some (.cells #[a0,a1,a2] T))(v0 v1 v2:Value) :
  (((w.setCell ⟨b,0,none⟩ v0).setCell ⟨b,1,none⟩ v1).setCell ⟨b,2,none⟩ v2).1[b]?=some (.cells #[v0,v1,v2] T):=
 heap_setCell_same _ _ 2 _ _ v2 (heap_setCell_same _ _ 1 _ _ v1 (heap_setCell_same _ _ 0 _ _ v0 h))
theorem ug(W:World)(b:Nat){v0 v1 v2:Value}{T:TypeId}(h:W.1[b]?=some (.cells #[v0,v1,v2] T)):W.cell? ⟨b,0,none⟩=some v0/\W.cell? ⟨b,1,none⟩=some v1/\W.cell? ⟨b,2,none⟩=some v2/\b<W.1.size:=
 ⟨ai h 0,ai h 1,ai h 2,ae h⟩
theorem Cz(s:ByteArray)(w:World)(hs:s.size<=4611686018427387904)(h0:1<=s.size) :
  Calls Tryz.prog 144 #[VE s] w λe w'=>e=.returned (cf (St.cE s.1.1))/\ac w w':=by
 have hcr:s.1.1=s[0] :: s.1.1.drop 1:=St.ft s (by omega);have z0:0<s.size:=by omega
 by_cases gT:s[0].toNat=60
 ·have hsl:=St.nA (r:=s.1.1.drop 1) gT;rw[<-hcr]at hsl;have NB:((s[0].toNat:Int)==60)=true:=by simp;omega
  have dR:=aa (λW=>BN s W hs h0);unfold St.sv at hsl;clear hcr gT;cases hq:St.fP s.1.1 with
  | none=>
   rw[hq]at hsl dR;have br:=aa hsl;have DP:Hid (∀W,Calls Tryz.prog 137 #[VE s] W λe w'=>e=.returned (VI #[.agg #[VD VJ 0,VE ⟨#[]⟩,VD VJ 0],VD VJ 0])/\ac W w'):=dR;clear hsl hq dR;go_enter Tryz.func144,Tryz.ntmps144;go_wp2_with fail;refine(DP.out _).mono ?_;rintro e w2 ⟨rfl,hu⟩;have hbr:=(hu.below.block w.1.size (by simp)).trans (aO w (.cells #[VD VJ 0,VE ⟨#[]⟩,VD VJ 0] 36) w.1.size rfl);have r0:w2.cell? ⟨w.1.size,0,none⟩=some (VD VJ 0):=ai hbr 0;have r1:w2.cell? ⟨w.1.size,1,none⟩=some (VE ⟨#[]⟩):=ai hbr 1;have r2:w2.cell? ⟨w.1.size,2,none⟩=some (VD VJ 0):=ai hbr 2;have p0:w2.frozen? ⟨w.1.size,0,none⟩=false:=bg hbr 0;have p1:w2.frozen? ⟨w.1.size,1,none⟩=false:=bg hbr 1;have p2:w2.frozen? ⟨w.1.size,2,none⟩=false:=bg hbr 2;haveI:af w.1.size w2:=af.of (ae hbr);have HU:=aa (((ac.refl w).alloc _).trans hu);have HB:=aa (uh w2 w.1.size hbr (VD VJ 0) (VE ⟨#[]⟩) (VD VJ 0));clear hu hbr;go_wp2;have Gz:=((HU.out.setCell (p:=⟨w.1.size,0,none⟩) (Nat.le_refl _) (VD VJ 0)).setCell (p:=⟨w.1.size,1,none⟩) (Nat.le_refl _) (VE ⟨#[]⟩)).setCell (p:=⟨w.1.size,2,none⟩) (Nat.le_refl _) (VD VJ 0);obtain⟨f0,f1,f2,f3⟩:=ug _ _ HB.out;generalize((w2.setCell ⟨w.1.size,0,none⟩ (VD VJ 0)).setCell ⟨w.1.size,1,none⟩ (VE ⟨#[]⟩)).setCell ⟨w.1.size,2,none⟩ (VD VJ 0)=W5 at *;haveI:af w.1.size W5:=af.of f3;refine bodyPost_ret (v:=cf none) (by simp[results,Tryz.results144,go_sem,cf,f0,f1,f2]) rfl ⟨?_,Gz.trans uZ⟩;rw[br.out]
  | some q=>
   obtain⟨k,t,n⟩:=q;rw[hq]at hsl dR;simp only at hsl;have hnn:2<=n:=(St.j3 hq).2.1
   have htl:t.length<=4611686018427387904:=by
    have:=St.j3 hq
    rw[St.aD]at this;omega
   obtain⟨tb,fl⟩:∃tb:ByteArray,(⟨t.toArray⟩:ByteArray)=tb:=⟨_,rfl⟩;obtain⟨nb,hnb⟩:∃nb:ByteArray,(⟨(St.nameOf t).toArray⟩:ByteArray)=nb:=⟨_,rfl⟩;have gj:tb.1.1=t:=by rw[<-fl]
   have bk:=aa (λW=>jZ t W htl);have DP:Hid (∀W,Calls Tryz.prog 137 #[VE s] W λe w'=>e=.returned (VI #[.agg #[VD VJ k,VE ⟨t.toArray⟩,VD VJ 0],VD VJ n])/\ac W w'):=dR;have hib:=λW=>rU ⟨(St.nameOf t).toArray⟩ W
   have zn:((n:Int)==0)=false:=by simp;omega
   cases hb:St.df (St.nameOf t)
   all_goals
    rw[hb]at hsl;rw[show St.df (⟨(St.nameOf t).toArray⟩:ByteArray).1.1=_ from hb]at hib;have tH:=aa hib;have br:=aa hsl;rw[fl]at DP;rw[fl,hnb]at bk;rw[hnb]at tH;clear hsl hq hb hnb fl hib dR;go_enter Tryz.func144,Tryz.ntmps144;go_wp2_with fail;refine(DP.out _).mono ?_;rintro e w2 ⟨rfl,hu⟩;have HU:=aa hu;clear hu;go_wp2_with fail;refine(bk.out _).mono ?_;rintro e w3 ⟨rfl,hu3⟩;have cV:=(hu3.below.block w2.1.size (by simp)).trans (aO w2 (.cells #[VD VJ k,VE tb,VD VJ 0] 36) w2.1.size rfl);have x0:w3.cell? ⟨w2.1.size,0,none⟩=some (VD VJ k):=ai cV 0;have x1:w3.cell? ⟨w2.1.size,1,none⟩=some (VE tb):=ai cV 1;have x2:w3.cell? ⟨w2.1.size,2,none⟩=some (VD VJ 0):=ai cV 2;have hu0:ac (w.alloc (.cells #[VD VJ 0,VE ⟨#[]⟩,VD VJ 0] 36)) w3:=HU.out.trans (ac.trans (uZ) hu3);have hbr:=(hu0.below.block w.1.size (by simp)).trans (aO w (.cells #[VD VJ 0,VE ⟨#[]⟩,VD VJ 0] 36) w.1.size rfl);have r0:w3.cell? ⟨w.1.size,0,none⟩=some (VD VJ 0):=ai hbr 0;have r1:w3.cell? ⟨w.1.size,1,none⟩=some (VE ⟨#[]⟩):=ai hbr 1;have r2:w3.cell? ⟨w.1.size,2,none⟩=some (VD VJ 0):=ai hbr 2;have p0:w3.frozen? ⟨w.1.size,0,none⟩=false:=bg hbr 0;have p1:w3.frozen? ⟨w.1.size,1,none⟩=false:=bg hbr 1;have p2:w3.frozen? ⟨w.1.size,2,none⟩=false:=bg hbr 2;haveI:af w2.1.size w3:=af.of (ae cV);haveI:af w.1.size w3:=af.of (ae hbr);have ba:=aa (((ac.refl w).alloc _).trans hu0);have P3:=aa hbr;clear hu3 cV hbr hu0 HU;go_wp2_with fail;refine(tH.out _).mono ?_;rintro e w4 ⟨rfl,rfl⟩;go_wp2
   ·have Gz:=((ba.out.setCell (p:=⟨w.1.size,0,none⟩) (Nat.le_refl _) (VD VJ k)).setCell (p:=⟨w.1.size,1,none⟩) (Nat.le_refl _) (VE tb)).setCell (p:=⟨w.1.size,2,none⟩) (Nat.le_refl _) (VD VJ 0);obtain⟨f0,f1,f2,f3⟩:=ug _ _ (uh w3 w.1.size P3.out (VD VJ k) (VE tb) (VD VJ 0));generalize((w3.setCell ⟨w.1.size,0,none⟩ (VD VJ k)).setCell ⟨w.1.size,1,none⟩ (VE tb)).setCell ⟨w.1.size,2,none⟩ (VD VJ 0)=W5 at *;haveI:af w.1.size W5:=af.of f3;refine bodyPost_ret (v:=VI #[.agg #[VD VJ k,VE tb,VD VJ 0],VD VJ n]) (by simp[results,Tryz.results144,go_sem,f0,f1,f2]) rfl ⟨?_,Gz.trans uZ⟩;rw[br.out];simp only[Bool.false_eq_true,if_false,cf,iG,<-gj,aX]
   have Gz:=((ba.out.setCell (p:=⟨w.1.size,0,none⟩) (Nat.le_refl _) (VD VJ 0)).setCell (p:=⟨w.1.size,1,none⟩) (Nat.le_refl _) (VE ⟨#[]⟩)).setCell (p:=⟨w.1.size,2,none⟩) (Nat.le_refl _) (VD VJ 0);obtain⟨f0,f1,f2,f3⟩:=ug _ _ (uh w3 w.1.size P3.out (VD VJ 0) (VE ⟨#[]⟩) (VD VJ 0));generalize((w3.setCell ⟨w.1.size,0,none⟩ (VD VJ 0)).setCell ⟨w.1.size,1,none⟩ (VE ⟨#[]⟩)).setCell ⟨w.1.size,2,none⟩ (VD VJ 0)=W5 at *;haveI:af w.1.size W5:=af.of f3;refine bodyPost_ret (v:=cf none) (by simp[results,Tryz.results144,go_sem,cf,f0,f1,f2]) rfl ⟨?_,Gz.trans uZ⟩;rw[br.out];rfl
 have NB:((s[0].toNat:Int)==60)=false:=by simp;omega
 by_cases pJ:s[0].toNat=38
 ·have hsl:=St.nz (r:=s.1.1.drop 1) pJ;rw[<-hcr]at hsl;have e38:((s[0].toNat:Int)==38)=true:=by simp;omega
  have h1:=λW=>gh s ⟨#[38,108,116,59]⟩ W (by omega) (by show 4<=_;omega)
  have h2:=λW=>gh s ⟨#[38,103,116,59]⟩ W (by omega) (by show 4<=_;omega)
  have h3:=λW=>gh s ⟨#[38,97,109,112,59]⟩ W (by omega) (by show 5<=_;omega)
  have h4:=λW=>gh s ⟨#[38,108,98,59]⟩ W (by omega) (by show 4<=_;omega)
  have h5:=λW=>gh s ⟨#[38,114,98,59]⟩ W (by omega) (by show 4<=_;omega)
  have hv:St.qX s.1.1=if preB ⟨#[38,108,116,59]⟩ s then some (1,[60],4)else if preB ⟨#[38,103,116,59]⟩ s then some (1,[62],4)else if preB ⟨#[38,97,109,112,59]⟩ s then some (1,[38],5)else if preB ⟨#[38,108,98,59]⟩ s then some (1,[123],4)else if preB ⟨#[38,114,98,59]⟩ s then some (1,[125],4)else none:=rfl
  rw[hv]at hsl;have i0:=λW=>(wa W).1
  have i1:=λW=>(wa W).2.1
  have i2:=λW=>(wa W).2.2.1
  have i3:=λW=>(wa W).2.2.2.1
  have i4:=λW=>(wa W).2.2.2.2
  obtain⟨x1,x2,x3,x4,x5⟩:=Lz;generalize preB ⟨#[38,108,116,59]⟩ s=b1 at h1 hsl;generalize preB ⟨#[38,103,116,59]⟩ s=b2 at h2 hsl;generalize preB ⟨#[38,97,109,112,59]⟩ s=b3 at h3 hsl;generalize preB ⟨#[38,108,98,59]⟩ s=b4 at h4 hsl;generalize preB ⟨#[38,114,98,59]⟩ s=b5 at h5 hsl;have br:=aa hsl;have H1:=aa h1;have H2:=aa h2;have H3:=aa h3;have H4:=aa h4;have H5:=aa h5;clear hv h1 h2 h3 h4 h5 hsl hcr gT pJ
  cases b1;rotate_left 1
  ·go_enter Tryz.func144,Tryz.ntmps144;go_wp2_with fail;refine wp_loop_rounds 6 ?_;rw[rounds_succ];go_wp2_with fail;refine(H1.out _).mono ?_;rintro e w' ⟨rfl,rfl⟩;go_wp2_with fail;refine(iI 60 60 rfl _).mono ?_;rintro e w2 ⟨rfl,X,rfl⟩;go_wp2;refine bodyPost_ret (v:=cf (some (1,[60],4))) (by simp[results,Tryz.results144,go_sem,cf,iG]) rfl ⟨?_,uZ⟩;rw[br.out];rfl
  cases b2;rotate_left 1
  ·go_enter Tryz.func144,Tryz.ntmps144;go_wp2_with fail;refine wp_loop_rounds 6 ?_;rw[rounds_succ];go_wp2_with fail;refine(H1.out _).mono ?_;rintro e w' ⟨rfl,rfl⟩;go_wp2_with fail;rw[rounds_succ];go_wp2_with fail;refine(H2.out _).mono ?_;rintro e w' ⟨rfl,rfl⟩;go_wp2_with fail;refine(iI 62 62 rfl _).mono ?_;rintro e w2 ⟨rfl,X,rfl⟩;go_wp2;refine bodyPost_ret (v:=cf (some (1,[62],4))) (by simp[results,Tryz.results144,go_sem,cf,iG]) rfl ⟨?_,uZ⟩;rw[br.out];rfl
  cases b3;rotate_left 1
  ·go_enter Tryz.func144,Tryz.ntmps144;go_wp2_with fail;refine wp_loop_rounds 6 ?_;rw[rounds_succ];go_wp2_with fail;refine(H1.out _).mono ?_;rintro e w' ⟨rfl,rfl⟩;go_wp2_with fail;rw[rounds_succ];go_wp2_with fail;refine(H2.out _).mono ?_;rintro e w' ⟨rfl,rfl⟩;go_wp2_with fail;rw[rounds_succ];go_wp2_with fail;refine(H3.out _).mono ?_;rintro e w' ⟨rfl,rfl⟩;go_wp2_with fail;refine(iI 38 38 rfl _).mono ?_;rintro e w2 ⟨rfl,X,rfl⟩;go_wp2;refine bodyPost_ret (v:=cf (some (1,[38],5))) (by simp[results,Tryz.results144,go_sem,cf,iG]) rfl ⟨?_,uZ⟩;rw[br.out];rfl
  cases b4;rotate_left 1
  ·go_enter Tryz.func144,Tryz.ntmps144;go_wp2_with fail;refine wp_loop_rounds 6 ?_;rw[rounds_succ];go_wp2_with fail;refine(H1.out _).mono ?_;rintro e w' ⟨rfl,rfl⟩;go_wp2_with fail;rw[rounds_succ];go_wp2_with fail;refine(H2.out _).mono ?_;rintro e w' ⟨rfl,rfl⟩;go_wp2_with fail;rw[rounds_succ];go_wp2_with fail;refine(H3.out _).mono ?_;rintro e w' ⟨rfl,rfl⟩;go_wp2_with fail;rw[rounds_succ];go_wp2_with fail;refine(H4.out _).mono ?_;rintro e w' ⟨rfl,rfl⟩;go_wp2_with fail;refine(iI 123 123 rfl _).mono ?_;rintro e w2 ⟨rfl,X,rfl⟩;go_wp2;refine bodyPost_ret (v:=cf (some (1,[123],4))) (by simp[results,Tryz.results144,go_sem,cf,iG]) rfl ⟨?_,uZ⟩;rw[br.out];rfl
  cases b5;rotate_left 1
  ·go_enter Tryz.func144,Tryz.ntmps144;go_wp2_with fail;refine wp_loop_rounds 6 ?_;rw[rounds_succ];go_wp2_with fail;refine(H1.out _).mono ?_;rintro e w' ⟨rfl,rfl⟩;go_wp2_with fail;rw[rounds_succ];go_wp2_with fail;refine(H2.out _).mono ?_;rintro e w' ⟨rfl,rfl⟩;go_wp2_with fail;rw[rounds_succ];go_wp2_with fail;refine(H3.out _).mono ?_;rintro e w' ⟨rfl,rfl⟩;go_wp2_with fail;rw[rounds_succ];go_wp2_with fail;refine(H4.out _).mono ?_;rintro e w' ⟨rfl,rfl⟩;go_wp2_with fail;rw[rounds_succ];go_wp2_with fail;refine(H5.out _).mono ?_;rintro e w' ⟨rfl,rfl⟩;go_wp2_with fail;refine(iI 125 125 rfl _).mono ?_;rintro e w2 ⟨rfl,X,rfl⟩;go_wp2;refine bodyPost_ret (v:=cf (some (1,[125],4))) (by simp[results,Tryz.results144,go_sem,cf,iG]) rfl ⟨?_,uZ⟩;rw[br.out];rfl
  go_enter Tryz.func144,Tryz.ntmps144;go_wp2_with fail;refine wp_loop_rounds 6 ?_;rw[rounds_succ];go_wp2_with fail;refine(H1.out _).mono ?_;rintro e w' ⟨rfl,rfl⟩;go_wp2_with fail;rw[rounds_succ];go_wp2_with fail;refine(H2.out _).mono ?_;rintro e w' ⟨rfl,rfl⟩;go_wp2_with fail;rw[rounds_succ];go_wp2_with fail;refine(H3.out _).mono ?_;rintro e w' ⟨rfl,rfl⟩;go_wp2_with fail;rw[rounds_succ];go_wp2_with fail;refine(H4.out _).mono ?_;rintro e w' ⟨rfl,rfl⟩;go_wp2_with fail;rw[rounds_succ];go_wp2_with fail;refine(H5.out _).mono ?_;rintro e w' ⟨rfl,rfl⟩;go_wp2_with fail;rw[rounds_succ];go_wp2;refine bodyPost_ret (v:=cf none) (by simp[results,Tryz.results144,go_sem,cf]) rfl ⟨?_,uZ⟩;rw[br.out];rfl
 have e38:((s[0].toNat:Int)==38)=false:=by simp;omega
 by_cases da:s[0].toNat=123
 ·have hsl:=St.l8 (r:=s.1.1.drop 1) da;rw[<-hcr]at hsl;have r6:((s[0].toNat:Int)==123)=true:=by simp;omega
  have br:=aa hsl;have ls:=λW=>uR s W hs h0
  obtain⟨k,x,m,hv⟩:=lT ((St.cH s.1.1).map λx=>((5:Int),x.1,x.2));have HV:=aa hv;rw[hv]at ls;have HS:=aa ls;clear hsl hcr ls hv gT pJ da;go_enter Tryz.func144,Tryz.ntmps144;go_wp2_with (go_at_call 180;refine(HS.out _).mono ?_;rintro e w' ⟨rfl,X,rfl⟩);refine bodyPost_ret (v:=VI #[.agg #[VD VJ k,VE x,VD VJ 0],VD VJ m]) (by simp[results,Tryz.results144,go_sem]) rfl ⟨?_,uZ⟩;rw[br.out,HV.out]
 have r6:((s[0].toNat:Int)==123)=false:=by simp;omega
 have hsl:=St.kQ (r:=s.1.1.drop 1) gT pJ da;rw[<-hcr]at hsl;have htx:=aa (λW=>iI s[0] (s[0].toNat:Int) rfl W);have br:=aa hsl;clear hsl hcr gT pJ da;go_enter Tryz.func144,Tryz.ntmps144;go_wp2_with (go_at_call 179;refine(htx.out _).mono ?_;rintro e w' ⟨rfl,X,rfl⟩);refine bodyPost_ret (v:=cf (some (1,[s[0]],1))) (by simp[results,Tryz.results144,go_sem,cf,iG]) rfl ⟨?_,uZ⟩;rw[br.out]
theorem uH:Kl St.cE:=by
 intro l k t n h;obtain⟨hk,h1,h2,h3⟩:=St.oq h;exact⟨by omega,h1,h2,h3⟩
theorem xb:zA 1 St.cE:=by
 intro s w hs h0;obtain⟨k,x,m,hv⟩:=lT (St.cE s.1.1);have hsh:=λW=>Cz s W hs h0
 rw[hv]at hsh;have HS:=aa hsh;have HV:=aa hv;clear hsh hv;go_enter Tryz.func104,Tryz.ntmps104;go_wp2_with (go_at_call 144;refine(HS.out _).mono ?_;rintro e w' ⟨rfl,X,rfl⟩);refine bodyPost_ret (v:=VI #[.agg #[VD VJ k,VE x,VD VJ 0],VD VJ m]) (by simp[results,Tryz.results104,go_sem]) rfl ⟨?_,uZ⟩;rw[HV.out]
