/- The contract of the reference's markup element: what it gives is St.markL. -/
import Derived.Test.YthoemdibbldndaaGreatDoorRMk
import Derived.Test.YthoemdibbldndaaGreatDoorRDecT
set_option linter.unusedVariables false
set_option linter.unusedSimpArgs false
set_option maxHeartbeats 12800000
set_option maxRecDepth 20000
namespace Go.Proofs.YthoemdibbldndaaGreatDoor
open Go.RowKit
theorem rx_ix(W:World):(Instr.index 224 (.agg #[.string ⟨#[38,108,116,59,60]⟩,.string ⟨#[38,103,116,59,62]⟩,.string ⟨#[38,97,109,112,59,38]⟩,.string ⟨#[38,108,98,59,123]⟩,.string ⟨#[38,114,98,59,125]⟩]) (.int .i64 0)).run Tryz.prog W=.ok (.string ⟨#[38,108,116,59,60]⟩) W /\
  (Instr.index 224 (.agg #[.string ⟨#[38,108,116,59,60]⟩,.string ⟨#[38,103,116,59,62]⟩,.string ⟨#[38,97,109,112,59,38]⟩,.string ⟨#[38,108,98,59,123]⟩,.string ⟨#[38,114,98,59,125]⟩]) (.int .i64 1)).run Tryz.prog W=.ok (.string ⟨#[38,103,116,59,62]⟩) W /\
  (Instr.index 224 (.agg #[.string ⟨#[38,108,116,59,60]⟩,.string ⟨#[38,103,116,59,62]⟩,.string ⟨#[38,97,109,112,59,38]⟩,.string ⟨#[38,108,98,59,123]⟩,.string ⟨#[38,114,98,59,125]⟩]) (.int .i64 2)).run Tryz.prog W=.ok (.string ⟨#[38,97,109,112,59,38]⟩) W /\
  (Instr.index 224 (.agg #[.string ⟨#[38,108,116,59,60]⟩,.string ⟨#[38,103,116,59,62]⟩,.string ⟨#[38,97,109,112,59,38]⟩,.string ⟨#[38,108,98,59,123]⟩,.string ⟨#[38,114,98,59,125]⟩]) (.int .i64 3)).run Tryz.prog W=.ok (.string ⟨#[38,108,98,59,123]⟩) W /\
  (Instr.index 224 (.agg #[.string ⟨#[38,108,116,59,60]⟩,.string ⟨#[38,103,116,59,62]⟩,.string ⟨#[38,97,109,112,59,38]⟩,.string ⟨#[38,108,98,59,123]⟩,.string ⟨#[38,114,98,59,125]⟩]) (.int .i64 4)).run Tryz.prog W=.ok (.string ⟨#[38,114,98,59,125]⟩) W:=
 ⟨by kernel_rfl,by kernel_rfl,by kernel_rfl,by kernel_rfl,by kernel_rfl⟩
theorem ext_ref:(⟨#[38,108,116,59,60]⟩:ByteArray).extract 0 4=⟨#[38,108,116,59]⟩/\(⟨#[38,103,116,59,62]⟩:ByteArray).extract 0 4=⟨#[38,103,116,59]⟩/\(⟨#[38,97,109,112,59,38]⟩:ByteArray).extract 0 5=⟨#[38,97,109,112,59]⟩/\(⟨#[38,108,98,59,123]⟩:ByteArray).extract 0 4=⟨#[38,108,98,59]⟩/\(⟨#[38,114,98,59,125]⟩:ByteArray).extract 0 4=⟨#[38,114,98,59]⟩:=⟨by decide,by decide,by decide,by decide,by decide⟩
theorem box_set3(w:World)(b:Nat){a0 a1 a2:Value}{T:TypeId}(h:w.heap[b]?=some (.cells #[a0,a1,a2] T))(v0 v1 v2:Value) :
  (((w.setCell ⟨b,0,none⟩ v0).setCell ⟨b,1,none⟩ v1).setCell ⟨b,2,none⟩ v2).heap[b]?=some (.cells #[v0,v1,v2] T):=
 heap_setCell_same _ _ 2 _ _ v2 (heap_setCell_same _ _ 1 _ _ v1 (heap_setCell_same _ _ 0 _ _ v0 h))
theorem box_load(W:World)(b:Nat){v0 v1 v2:Value}{T:TypeId}(h:W.heap[b]?=some (.cells #[v0,v1,v2] T)):W.cell? ⟨b,0,none⟩=some v0/\W.cell? ⟨b,1,none⟩=some v1/\W.cell? ⟨b,2,none⟩=some v2/\b<W.heap.size:=
 ⟨zcH h 0,zcH h 1,zcH h 2,lt_of_heap h⟩
theorem rmarkup_any(s:ByteArray)(w:World)(hs:s.size<=4611686018427387904)(h0:1<=s.size) :
  Calls Tryz.prog 144 #[.string s] w fun e w'=>e=.returned (elV (St.markL s.data.toList))/\Und w w':=by
 have hcr:s.data.toList=s[0] :: s.data.toList.drop 1:=St.list_zero s (by omega);have z0:0<s.size:=by omega
 by_cases c60:s[0].toNat=60
 ·have hsl:=St.mark_60 (r:=s.data.toList.drop 1) c60
  rw[<- hcr] at hsl;have e60:((s[0].toNat:Int)==60)=true:=by simp;omega
  have HTG:=hid (fun W=>rtag_any s W hs h0);unfold St.inlL at hsl;clear hcr c60;cases hq:St.tagL s.data.toList with
  | none=>
   rw[hq] at hsl HTG;have HSL:=hid hsl;have HTG2:Hid (∀ W,Calls Tryz.prog 137 #[.string s] W fun e w'=>e=.returned (.tuple #[.agg #[.int .i64 0,.string ⟨#[]⟩,.int .i64 0],.int .i64 0])/\Und W w'):=HTG;clear hsl hq HTG;go_enter Tryz.func144,Tryz.ntmps144;go_wp2_with fail;refine(HTG2.out _).mono ?_;rintro e w2 ⟨rfl,hu⟩;have hbr:=(hu.below.block w.heap.size (by simp)).trans (heap_alloc_at w (.cells #[.int .i64 0,.string ⟨#[]⟩,.int .i64 0] 36) w.heap.size rfl);have r0:w2.cell? ⟨w.heap.size,0,none⟩=some (.int .i64 0):=zcH hbr 0;have r1:w2.cell? ⟨w.heap.size,1,none⟩=some (.string ⟨#[]⟩):=zcH hbr 1;have r2:w2.cell? ⟨w.heap.size,2,none⟩=some (.int .i64 0):=zcH hbr 2;have p0:w2.frozen? ⟨w.heap.size,0,none⟩=false:=zfH hbr 0;have p1:w2.frozen? ⟨w.heap.size,1,none⟩=false:=zfH hbr 1;have p2:w2.frozen? ⟨w.heap.size,2,none⟩=false:=zfH hbr 2;haveI:LtW w.heap.size w2:=LtW.of (lt_of_heap hbr);have HU:=hid (((Und.refl w).alloc _).trans hu);have HB:=hid (box_set3 w2 w.heap.size hbr (.int .i64 0) (.string ⟨#[]⟩) (.int .i64 0));clear hu hbr;go_wp2;have hU4:=((HU.out.setCell (p:=⟨w.heap.size,0,none⟩) (Nat.le_refl _) (.int .i64 0)).setCell (p:=⟨w.heap.size,1,none⟩) (Nat.le_refl _) (.string ⟨#[]⟩)).setCell (p:=⟨w.heap.size,2,none⟩) (Nat.le_refl _) (.int .i64 0);obtain⟨f0,f1,f2,f3⟩:=box_load _ _ HB.out;generalize ((w2.setCell ⟨w.heap.size,0,none⟩ (.int .i64 0)).setCell ⟨w.heap.size,1,none⟩ (.string ⟨#[]⟩)).setCell ⟨w.heap.size,2,none⟩ (.int .i64 0)=W5 at *;haveI:LtW w.heap.size W5:=LtW.of f3;refine bodyPost_ret (v:=elV none) (by simp[results,Tryz.results144,go_sem,elV,f0,f1,f2]) rfl ⟨?_,hU4.trans (by apply_rules[uUe,uUa,uUb,uUc,uUd])⟩;rw[HSL.out]
  | some q=>
   obtain⟨k,t,n⟩:=q;rw[hq] at hsl HTG;simp only at hsl;have hnn:2<=n:=(St.tag_len hq).2.1
   have htl:t.length<=4611686018427387904:=by
    have:=St.tag_len hq
    rw[St.len_list] at this;omega
   obtain⟨tb,htb⟩:∃ tb:ByteArray,(⟨t.toArray⟩:ByteArray)=tb:=⟨_,rfl⟩;obtain⟨nb,hnb⟩:∃ nb:ByteArray,(⟨(St.nameOf t).toArray⟩:ByteArray)=nb:=⟨_,rfl⟩;have htbl:tb.data.toList=t:=by rw[<- htb]
   have HNM:=hid (fun W=>rname_u t W htl);have HTG2:Hid (∀ W,Calls Tryz.prog 137 #[.string s] W fun e w'=>e=.returned (.tuple #[.agg #[.int .i64 k,.string ⟨t.toArray⟩,.int .i64 0],.int .i64 n])/\Und W w'):=HTG;have hib:=fun W=>block_any ⟨(St.nameOf t).toArray⟩ W
   have zn:((n:Int)==0)=false:=by simp;omega
   cases hb:St.blockL (St.nameOf t)
   all_goals
    rw[hb] at hsl;rw[show St.blockL (⟨(St.nameOf t).toArray⟩:ByteArray).data.toList=_ from hb] at hib;have HIB:=hid hib;have HSL:=hid hsl;rw[htb] at HTG2;rw[htb,hnb] at HNM;rw[hnb] at HIB;clear hsl hq hb hnb htb hib HTG;go_enter Tryz.func144,Tryz.ntmps144;go_wp2_with fail;refine(HTG2.out _).mono ?_;rintro e w2 ⟨rfl,hu⟩;have HU:=hid hu;clear hu;go_wp2_with fail;refine(HNM.out _).mono ?_;rintro e w3 ⟨rfl,hu3⟩;have hbx:=(hu3.below.block w2.heap.size (by simp)).trans (heap_alloc_at w2 (.cells #[.int .i64 k,.string tb,.int .i64 0] 36) w2.heap.size rfl);have x0:w3.cell? ⟨w2.heap.size,0,none⟩=some (.int .i64 k):=zcH hbx 0;have x1:w3.cell? ⟨w2.heap.size,1,none⟩=some (.string tb):=zcH hbx 1;have x2:w3.cell? ⟨w2.heap.size,2,none⟩=some (.int .i64 0):=zcH hbx 2;have hu0:Und (w.alloc (.cells #[.int .i64 0,.string ⟨#[]⟩,.int .i64 0] 36)) w3:=HU.out.trans (Und.trans ((by apply_rules[uUe,uUa,uUb,uUc,uUd])) hu3);have hbr:=(hu0.below.block w.heap.size (by simp)).trans (heap_alloc_at w (.cells #[.int .i64 0,.string ⟨#[]⟩,.int .i64 0] 36) w.heap.size rfl);have r0:w3.cell? ⟨w.heap.size,0,none⟩=some (.int .i64 0):=zcH hbr 0;have r1:w3.cell? ⟨w.heap.size,1,none⟩=some (.string ⟨#[]⟩):=zcH hbr 1;have r2:w3.cell? ⟨w.heap.size,2,none⟩=some (.int .i64 0):=zcH hbr 2;have p0:w3.frozen? ⟨w.heap.size,0,none⟩=false:=zfH hbr 0;have p1:w3.frozen? ⟨w.heap.size,1,none⟩=false:=zfH hbr 1;have p2:w3.frozen? ⟨w.heap.size,2,none⟩=false:=zfH hbr 2;haveI:LtW w2.heap.size w3:=LtW.of (lt_of_heap hbx);haveI:LtW w.heap.size w3:=LtW.of (lt_of_heap hbr);have HU3:=hid (((Und.refl w).alloc _).trans hu0);have HBR:=hid hbr;clear hu3 hbx hbr hu0 HU;go_wp2_with fail;refine(HIB.out _).mono ?_;rintro e w4 ⟨rfl,rfl⟩;go_wp2
   ·have hU4:=((HU3.out.setCell (p:=⟨w.heap.size,0,none⟩) (Nat.le_refl _) (.int .i64 k)).setCell (p:=⟨w.heap.size,1,none⟩) (Nat.le_refl _) (.string tb)).setCell (p:=⟨w.heap.size,2,none⟩) (Nat.le_refl _) (.int .i64 0)
    obtain⟨f0,f1,f2,f3⟩:=box_load _ _ (box_set3 w3 w.heap.size HBR.out (.int .i64 k) (.string tb) (.int .i64 0));generalize ((w3.setCell ⟨w.heap.size,0,none⟩ (.int .i64 k)).setCell ⟨w.heap.size,1,none⟩ (.string tb)).setCell ⟨w.heap.size,2,none⟩ (.int .i64 0)=W5 at *;haveI:LtW w.heap.size W5:=LtW.of f3;refine bodyPost_ret (v:=.tuple #[.agg #[.int .i64 k,.string tb,.int .i64 0],.int .i64 n]) (by simp[results,Tryz.results144,go_sem,f0,f1,f2]) rfl ⟨?_,hU4.trans (by apply_rules[uUe,uUa,uUb,uUc,uUd])⟩;rw[HSL.out];simp only[Bool.false_eq_true,if_false,elV,itv,<- htbl,ba_eta]
   ·have hU4:=((HU3.out.setCell (p:=⟨w.heap.size,0,none⟩) (Nat.le_refl _) (.int .i64 0)).setCell (p:=⟨w.heap.size,1,none⟩) (Nat.le_refl _) (.string ⟨#[]⟩)).setCell (p:=⟨w.heap.size,2,none⟩) (Nat.le_refl _) (.int .i64 0)
    obtain⟨f0,f1,f2,f3⟩:=box_load _ _ (box_set3 w3 w.heap.size HBR.out (.int .i64 0) (.string ⟨#[]⟩) (.int .i64 0));generalize ((w3.setCell ⟨w.heap.size,0,none⟩ (.int .i64 0)).setCell ⟨w.heap.size,1,none⟩ (.string ⟨#[]⟩)).setCell ⟨w.heap.size,2,none⟩ (.int .i64 0)=W5 at *;haveI:LtW w.heap.size W5:=LtW.of f3;refine bodyPost_ret (v:=elV none) (by simp[results,Tryz.results144,go_sem,elV,f0,f1,f2]) rfl ⟨?_,hU4.trans (by apply_rules[uUe,uUa,uUb,uUc,uUd])⟩;rw[HSL.out];rfl
 have e60:((s[0].toNat:Int)==60)=false:=by simp;omega
 by_cases c38:s[0].toNat=38
 ·have hsl:=St.mark_38 (r:=s.data.toList.drop 1) c38
  rw[<- hcr] at hsl;have e38:((s[0].toNat:Int)==38)=true:=by simp;omega
  have h1:=fun W=>begins_any s ⟨#[38,108,116,59]⟩ W (by omega) (by show 4<=_;omega)
  have h2:=fun W=>begins_any s ⟨#[38,103,116,59]⟩ W (by omega) (by show 4<=_;omega)
  have h3:=fun W=>begins_any s ⟨#[38,97,109,112,59]⟩ W (by omega) (by show 5<=_;omega)
  have h4:=fun W=>begins_any s ⟨#[38,108,98,59]⟩ W (by omega) (by show 4<=_;omega)
  have h5:=fun W=>begins_any s ⟨#[38,114,98,59]⟩ W (by omega) (by show 4<=_;omega)
  have hv:St.refL s.data.toList=if preB ⟨#[38,108,116,59]⟩ s then some (1,[60],4) else if preB ⟨#[38,103,116,59]⟩ s then some (1,[62],4) else if preB ⟨#[38,97,109,112,59]⟩ s then some (1,[38],5) else if preB ⟨#[38,108,98,59]⟩ s then some (1,[123],4) else if preB ⟨#[38,114,98,59]⟩ s then some (1,[125],4) else none:=rfl
  rw[hv] at hsl;have i0:=fun W=>(rx_ix W).1
  have i1:=fun W=>(rx_ix W).2.1
  have i2:=fun W=>(rx_ix W).2.2.1
  have i3:=fun W=>(rx_ix W).2.2.2.1
  have i4:=fun W=>(rx_ix W).2.2.2.2
  obtain⟨x1,x2,x3,x4,x5⟩:=ext_ref;generalize preB ⟨#[38,108,116,59]⟩ s=b1 at h1 hsl;generalize preB ⟨#[38,103,116,59]⟩ s=b2 at h2 hsl;generalize preB ⟨#[38,97,109,112,59]⟩ s=b3 at h3 hsl;generalize preB ⟨#[38,108,98,59]⟩ s=b4 at h4 hsl;generalize preB ⟨#[38,114,98,59]⟩ s=b5 at h5 hsl;have HSL:=hid hsl;have H1:=hid h1;have H2:=hid h2;have H3:=hid h3;have H4:=hid h4;have H5:=hid h5;clear hv h1 h2 h3 h4 h5 hsl hcr c60 c38
  cases b1;rotate_left 1
  ·go_enter Tryz.func144,Tryz.ntmps144
   go_wp2_with fail;refine wp_loop_rounds 6 ?_;rw[rounds_succ];go_wp2_with fail;refine(H1.out _).mono ?_;rintro e w' ⟨rfl,rfl⟩;go_wp2_with fail;refine(text_at 60 60 rfl _).mono ?_;rintro e w2 ⟨rfl,X,rfl⟩;go_wp2;refine bodyPost_ret (v:=elV (some (1,[60],4))) (by simp[results,Tryz.results144,go_sem,elV,itv]) rfl ⟨?_,(by apply_rules[uUe,uUa,uUb,uUc,uUd])⟩;rw[HSL.out];rfl
  cases b2;rotate_left 1
  ·go_enter Tryz.func144,Tryz.ntmps144
   go_wp2_with fail;refine wp_loop_rounds 6 ?_;rw[rounds_succ];go_wp2_with fail;refine(H1.out _).mono ?_;rintro e w' ⟨rfl,rfl⟩;go_wp2_with fail;rw[rounds_succ];go_wp2_with fail;refine(H2.out _).mono ?_;rintro e w' ⟨rfl,rfl⟩;go_wp2_with fail;refine(text_at 62 62 rfl _).mono ?_;rintro e w2 ⟨rfl,X,rfl⟩;go_wp2;refine bodyPost_ret (v:=elV (some (1,[62],4))) (by simp[results,Tryz.results144,go_sem,elV,itv]) rfl ⟨?_,(by apply_rules[uUe,uUa,uUb,uUc,uUd])⟩;rw[HSL.out];rfl
  cases b3;rotate_left 1
  ·go_enter Tryz.func144,Tryz.ntmps144
   go_wp2_with fail;refine wp_loop_rounds 6 ?_;rw[rounds_succ];go_wp2_with fail;refine(H1.out _).mono ?_;rintro e w' ⟨rfl,rfl⟩;go_wp2_with fail;rw[rounds_succ];go_wp2_with fail;refine(H2.out _).mono ?_;rintro e w' ⟨rfl,rfl⟩;go_wp2_with fail;rw[rounds_succ];go_wp2_with fail;refine(H3.out _).mono ?_;rintro e w' ⟨rfl,rfl⟩;go_wp2_with fail;refine(text_at 38 38 rfl _).mono ?_;rintro e w2 ⟨rfl,X,rfl⟩;go_wp2;refine bodyPost_ret (v:=elV (some (1,[38],5))) (by simp[results,Tryz.results144,go_sem,elV,itv]) rfl ⟨?_,(by apply_rules[uUe,uUa,uUb,uUc,uUd])⟩;rw[HSL.out];rfl
  cases b4;rotate_left 1
  ·go_enter Tryz.func144,Tryz.ntmps144
   go_wp2_with fail;refine wp_loop_rounds 6 ?_;rw[rounds_succ];go_wp2_with fail;refine(H1.out _).mono ?_;rintro e w' ⟨rfl,rfl⟩;go_wp2_with fail;rw[rounds_succ];go_wp2_with fail;refine(H2.out _).mono ?_;rintro e w' ⟨rfl,rfl⟩;go_wp2_with fail;rw[rounds_succ];go_wp2_with fail;refine(H3.out _).mono ?_;rintro e w' ⟨rfl,rfl⟩;go_wp2_with fail;rw[rounds_succ];go_wp2_with fail;refine(H4.out _).mono ?_;rintro e w' ⟨rfl,rfl⟩;go_wp2_with fail;refine(text_at 123 123 rfl _).mono ?_;rintro e w2 ⟨rfl,X,rfl⟩;go_wp2;refine bodyPost_ret (v:=elV (some (1,[123],4))) (by simp[results,Tryz.results144,go_sem,elV,itv]) rfl ⟨?_,(by apply_rules[uUe,uUa,uUb,uUc,uUd])⟩;rw[HSL.out];rfl
  cases b5;rotate_left 1
  ·go_enter Tryz.func144,Tryz.ntmps144
   go_wp2_with fail;refine wp_loop_rounds 6 ?_;rw[rounds_succ];go_wp2_with fail;refine(H1.out _).mono ?_;rintro e w' ⟨rfl,rfl⟩;go_wp2_with fail;rw[rounds_succ];go_wp2_with fail;refine(H2.out _).mono ?_;rintro e w' ⟨rfl,rfl⟩;go_wp2_with fail;rw[rounds_succ];go_wp2_with fail;refine(H3.out _).mono ?_;rintro e w' ⟨rfl,rfl⟩;go_wp2_with fail;rw[rounds_succ];go_wp2_with fail;refine(H4.out _).mono ?_;rintro e w' ⟨rfl,rfl⟩;go_wp2_with fail;rw[rounds_succ];go_wp2_with fail;refine(H5.out _).mono ?_;rintro e w' ⟨rfl,rfl⟩;go_wp2_with fail;refine(text_at 125 125 rfl _).mono ?_;rintro e w2 ⟨rfl,X,rfl⟩;go_wp2;refine bodyPost_ret (v:=elV (some (1,[125],4))) (by simp[results,Tryz.results144,go_sem,elV,itv]) rfl ⟨?_,(by apply_rules[uUe,uUa,uUb,uUc,uUd])⟩;rw[HSL.out];rfl
  go_enter Tryz.func144,Tryz.ntmps144;go_wp2_with fail;refine wp_loop_rounds 6 ?_;rw[rounds_succ];go_wp2_with fail;refine(H1.out _).mono ?_;rintro e w' ⟨rfl,rfl⟩;go_wp2_with fail;rw[rounds_succ];go_wp2_with fail;refine(H2.out _).mono ?_;rintro e w' ⟨rfl,rfl⟩;go_wp2_with fail;rw[rounds_succ];go_wp2_with fail;refine(H3.out _).mono ?_;rintro e w' ⟨rfl,rfl⟩;go_wp2_with fail;rw[rounds_succ];go_wp2_with fail;refine(H4.out _).mono ?_;rintro e w' ⟨rfl,rfl⟩;go_wp2_with fail;rw[rounds_succ];go_wp2_with fail;refine(H5.out _).mono ?_;rintro e w' ⟨rfl,rfl⟩;go_wp2_with fail;rw[rounds_succ];go_wp2;refine bodyPost_ret (v:=elV none) (by simp[results,Tryz.results144,go_sem,elV]) rfl ⟨?_,(by apply_rules[uUe,uUa,uUb,uUc,uUd])⟩;rw[HSL.out];rfl
 have e38:((s[0].toNat:Int)==38)=false:=by simp;omega
 by_cases c123:s[0].toNat=123
 ·have hsl:=St.mark_123 (r:=s.data.toList.drop 1) c123
  rw[<- hcr] at hsl;have e123:((s[0].toNat:Int)==123)=true:=by simp;omega
  have HSL:=hid hsl;have hslot:=fun W=>slot_any s W hs h0
  obtain⟨k,x,m,hv⟩:=elV_form ((St.slotL s.data.toList).map fun x=>((5:Int),x.1,x.2));have HV:=hid hv;rw[hv] at hslot;have HS:=hid hslot;clear hsl hcr hslot hv c60 c38 c123;go_enter Tryz.func144,Tryz.ntmps144;go_wp2_with (go_at_call 180;refine(HS.out _).mono ?_;rintro e w' ⟨rfl,X,rfl⟩);refine bodyPost_ret (v:=.tuple #[.agg #[.int .i64 k,.string x,.int .i64 0],.int .i64 m]) (by simp[results,Tryz.results144,go_sem]) rfl ⟨?_,(by apply_rules[uUe,uUa,uUb,uUc,uUd])⟩;rw[HSL.out,HV.out]
 ·have e123:((s[0].toNat:Int)==123)=false:=by simp;omega
  have hsl:=St.mark_else (r:=s.data.toList.drop 1) c60 c38 c123;rw[<- hcr] at hsl;have htx:=hid (fun W=>text_at s[0] (s[0].toNat:Int) rfl W);have HSL:=hid hsl;clear hsl hcr c60 c38 c123;go_enter Tryz.func144,Tryz.ntmps144;go_wp2_with (go_at_call 179;refine(htx.out _).mono ?_;rintro e w' ⟨rfl,X,rfl⟩);refine bodyPost_ret (v:=elV (some (1,[s[0]],1))) (by simp[results,Tryz.results144,go_sem,elV,itv]) rfl ⟨?_,(by apply_rules[uUe,uUa,uUb,uUc,uUd])⟩;rw[HSL.out]
theorem mark_okT:ElOkT St.markL:=by
 intro l k t n h;obtain⟨hk,h1,h2,h3⟩:=St.mark_len h;exact⟨by omega,h1,h2,h3⟩
theorem mark_at:ElAt 1 St.markL:=by
 intro s w hs h0;obtain⟨k,x,m,hv⟩:=elV_form (St.markL s.data.toList);have hsh:=fun W=>rmarkup_any s W hs h0
 rw[hv] at hsh;have HS:=hid hsh;have HV:=hid hv;clear hsh hv;go_enter Tryz.func104,Tryz.ntmps104;go_wp2_with (go_at_call 144;refine(HS.out _).mono ?_;rintro e w' ⟨rfl,X,rfl⟩);refine bodyPost_ret (v:=.tuple #[.agg #[.int .i64 k,.string x,.int .i64 0],.int .i64 m]) (by simp[results,Tryz.results104,go_sem]) rfl ⟨?_,(by apply_rules[uUe,uUa,uUb,uUc,uUd])⟩;rw[HV.out]
end Go.Proofs.YthoemdibbldndaaGreatDoor
