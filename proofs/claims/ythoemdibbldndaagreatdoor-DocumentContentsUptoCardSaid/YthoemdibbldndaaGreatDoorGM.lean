/- The contract of bitextmake.Document: a document that the reference's Parse has given. -/
import Derived.Test.YthoemdibbldndaaGreatDoorGJ
import Derived.Test.YthoemdibbldndaaGreatDoorGK
set_option linter.unusedVariables false
set_option linter.unusedSimpArgs false
set_option maxHeartbeats 12800000
set_option maxRecDepth 20000
namespace Go.Proofs.YthoemdibbldndaaGreatDoor
open Go.RowKit
section
theorem data_gen(fmt:Int)(hk:fmt=1∨fmt=2∨fmt=3)(B g P:Nat)(w:World)(hG:GenP w B g P)(hP:P<=10000) :
  Calls Tryz.prog 100 #[.pointer (some ⟨g,0,none⟩),.int .i64 fmt,.int .i64 4] w fun e w'=>∃ data:ByteArray,e=.returned (.string data)/\data.size<=1000000/\GenP w' B g (P+1602)/\w.grownBy w' (some g):=by
 rcases hk with rfl|rfl|rfl
 ·refine(ldata7_gen B g P 4 w hG hP (by omega)).mono ?_
  rintro e w' ⟨data,rfl,h1,h2,h3⟩;exact⟨data,rfl,by omega,h2.le (by omega),h3⟩
 ·refine(ldata8_gen B g P 4 w hG hP (by omega)).mono ?_
  rintro e w' ⟨data,rfl,h1,h2,h3⟩;exact⟨data,rfl,by omega,h2.le (by omega),h3⟩
 ·refine(ldata9_gen B g P 4 w hG hP (by omega)).mono ?_
  rintro e w' ⟨data,rfl,h1,h2,h3⟩;exact⟨data,rfl,by omega,h2.le (by omega),h3⟩
set_option maxRecDepth 100000 in
theorem red_split:St.S1 (⟨#[60,112,62,114,101,100,32,99,97,114,60,47,112,62]⟩:ByteArray).data.toList=([(false,[],[60,112,62]),(true,[49],[114,101,100,32,99,97,114]),(false,[],[60,47,112,62])],0,0):=by kernel_rfl
theorem mdoc_gen(B g P:Nat)(w:World)(hG:GenP w B g P)(hP:P<=9000) :
  Calls Tryz.prog 58 #[.pointer (some ⟨g,0,none⟩),.int .i64 4] w fun e w'=>∃ (fmt:Int) (A:Option Addr) (c:Nat) (ps:List St.Pt),e=.returned (.agg #[.int .i64 fmt,.slice A ps.length c])/\FromS fmt ps/\PartsAt w' A ps/\ps.length<=c/\c<=9223372036854775807/\w.grownBy w' (some g):=by
 have HG:=hid hG;obtain⟨hgB,hB⟩:=hG.lt;clear hG;go_enter Tryz.func58,Tryz.ntmps58;go_wp2_with fail;refine(next_gen B g P 3 _ (HG.out.und (by apply_rules[uUe,uUa,uUb,uUc,uUd])) (by omega) (by omega) (by omega)).mono ?_;rintro e w1 ⟨r,rfl,hr,hG1,hk1⟩;have HG1:=hid hG1;have HK1:=hid (gb_trans (Und.gb ((by apply_rules[uUe,uUa,uUb,uUc,uUd]):Und w (w.alloc (.cells #[.int .i64 0,.slice none 0 0] 25))) (some g)) hk1 (fun x e=>Or.inl e));have HR1:=hid ((hk1.block w.heap.size (by simp) (by simp;omega)).trans (heap_alloc_new w (.cells #[.int .i64 0,.slice none 0 0] 25)));clear hG1 hk1;obtain⟨fmt,hf⟩:∃ fmt:Int,fmt=1+(r:Int):=⟨_,rfl⟩;have hkn:fmt=1∨fmt=2∨fmt=3:=by omega
 have hdata:=hid (data_gen fmt hkn B g (P+1) w1 HG1.out (by omega));have hf2:1+(r:Int)=fmt:=hf.symm;clear hf hr;go_wp2_with fail;refine hdata.out.mono ?_;rintro e w2 ⟨data,rfl,hds,hG2,hk2⟩;have HG2:=hid hG2;have HK2:=hid (gb_trans HK1.out hk2 (fun _ e=>.inl e));have HR2:=hid ((hk2.block w.heap.size (lt_of_heap HR1.out) (by simp;omega)).trans HR1.out);have hpar:=hid (fun W=>rparse_sp data W (rsOf fmt hkn) (by omega));clear hG2 hk2 HG1 HK1 HR1 hdata;go_wp2_with fail;refine(hpar.out _).mono ?_;rintro e w3 ⟨hu3,h3⟩;generalize hS:SOf fmt data.data.toList=R at h3;obtain⟨ps,pl,er⟩:=R;simp only at h3;have hdl:=St.len_list data;have HG3:=hid (HG2.out.und hu3);have HK3:=hid (gb_und HK2.out hu3);have hb3:=(hu3.below.block w.heap.size (lt_of_heap HR2.out)).trans HR2.out;have HB3:=hid hb3;have d0:w3.cell? ⟨w.heap.size,0,none⟩=some (.int .i64 0):=zcH hb3 0;have d1:w3.cell? ⟨w.heap.size,1,none⟩=some (.slice none 0 0):=zcH hb3 1;have f0:w3.frozen? ⟨w.heap.size,0,none⟩=false:=zfH hb3 0;have f1:w3.frozen? ⟨w.heap.size,1,none⟩=false:=zfH hb3 1;have hlt3:=lt_of_heap hb3;haveI:LtW w.heap.size w3:=LtW.of hlt3;clear hb3 hu3 HG2 HK2 HR2 hpar
 have fin:∀ (W V:World) (fm:Int) (A:Option Addr) (qs:List St.Pt) (c:Nat) (u v:Value),FromS fm qs->qs.length<=c->c<=9223372036854775807->PartsAt W A qs->Und w3 W->Und ((W.setCell ⟨w.heap.size,0,none⟩ u).setCell ⟨w.heap.size,1,none⟩ v) V->∃ (fmt:Int) (A':Option Addr) (c':Nat) (ps:List St.Pt),Ending.returned (.agg #[.int .i64 fm,.slice A qs.length c])=.returned (.agg #[.int .i64 fmt,.slice A' ps.length c'])/\FromS fmt ps/\PartsAt V A' ps/\ps.length<=c'/\c'<=9223372036854775807/\w.grownBy V (some g):=
  fun W V fm A qs c u v h1 h3 h4 h2 hu hV=>⟨fm,A,c,qs,rfl,h1,(parts_set h2 ((hu.below.block w.heap.size hlt3).trans HB3.out) u v).und hV,h3,h4,gb_und (gb_setCell (gb_setCell (gb_und HK3.out hu) ⟨w.heap.size,0,none⟩ _ (.inr (Nat.le_refl _))) ⟨w.heap.size,1,none⟩ _ (.inr (Nat.le_refl _))) hV⟩
 have FIN:=hid fin;clear fin;rcases h3 with ⟨rfl,A,c,rfl,hP,h1,h2⟩|⟨he,rfl⟩
 ·have HF:=hid (show FromS fmt ps from⟨hkn,_,pl,by omega,hS⟩)
  have HP:=hid hP;clear hS hP hf2;go_wp2;refine bodyPost_ret (v:=.agg #[.int .i64 fmt,.slice A ps.length c]) ?_ rfl ?_
  ·simp[results,Tryz.results58,go_sem,d0,d1]
  ·exact FIN.out w3 _ fmt A ps c _ _ HF.out h1 h2 HP.out (Und.refl _) ((by apply_rules[uUe,uUa,uUb,uUc,uUd]))
 ·have z1:(er==0)=false:=by simpa using he
  have z2:(er != 0)=true:=by simpa using he
  have hpr:=hid (fun W=>rparse_sp ⟨#[60,112,62,114,101,100,32,99,97,114,60,47,112,62]⟩ W rs1 (by show 14<=_;omega));rw[red_split] at hpr;clear he hS hf2;go_wp2_with fail;refine(hpr.out _).mono ?_;rintro e w4 ⟨hu4,h4⟩
  have h5:∃ A c,e=.returned (.tuple #[.agg #[.int .i64 1,.slice A 3 c],.int .i64 0,.int .i64 0])/\PartsAt w4 A [(false,[],[60,112,62]),(true,[49],[114,101,100,32,99,97,114]),(false,[],[60,47,112,62])]/\3<=c/\c<=9223372036854775807:=by
   rcases h4 with ⟨_,h⟩|⟨h,_⟩
   ·exact h
   ·exact absurd rfl h
  obtain⟨A,c,rfl,hP,h1,h2⟩:=h5;have HF:=hid (show FromS 1 [(false,[],[60,112,62]),(true,[49],[114,101,100,32,99,97,114]),(false,[],[60,47,112,62])] from⟨.inl rfl,(⟨#[60,112,62,114,101,100,32,99,97,114,60,47,112,62]⟩:ByteArray).data.toList,0,by decide,by unfold SOf;rw[if_pos rfl];exact red_split⟩);generalize hps:[(false,([]:List UInt8),[(60:UInt8),112,62]),(true,[49],[114,101,100,32,99,97,114]),(false,[],[60,47,112,62])]=ps at hP HF;have hl:3=ps.length:=by rw[<- hps];rfl
  have hb4:=(hu4.below.block w3.heap.size (by simp)).trans (heap_alloc_new w3 (.cells #[.int .i64 0,.slice none 0 0] 25));have hu4':Und w3 w4:=Und.trans ((by apply_rules[uUe,uUa,uUb,uUc,uUd])) hu4;have hr4:=(hu4'.below.block w.heap.size hlt3).trans HB3.out;have e0:w4.cell? ⟨w3.heap.size,0,none⟩=some (.int .i64 0):=zcH hb4 0;have e1:w4.cell? ⟨w3.heap.size,1,none⟩=some (.slice none 0 0):=zcH hb4 1;have k0:w4.frozen? ⟨w3.heap.size,0,none⟩=false:=zfH hb4 0;have k1:w4.frozen? ⟨w3.heap.size,1,none⟩=false:=zfH hb4 1;have c0:w4.cell? ⟨w.heap.size,0,none⟩=some (.int .i64 0):=zcH hr4 0;have c1:w4.cell? ⟨w.heap.size,1,none⟩=some (.slice none 0 0):=zcH hr4 1;have l0:w4.frozen? ⟨w.heap.size,0,none⟩=false:=zfH hr4 0;have l1:w4.frozen? ⟨w.heap.size,1,none⟩=false:=zfH hr4 1;haveI:LtW w.heap.size w4:=LtW.of (lt_of_heap hr4);haveI:LtW w3.heap.size w4:=LtW.of (lt_of_heap hb4);have hne:¬ w.heap.size=w3.heap.size:=by omega
  have hne2:¬ w3.heap.size=w.heap.size:=by omega
  have HP:=hid (fun u v=>parts_set hP hb4 u v);have HU4:=hid (fun u v=>(hu4'.setCell (p:=⟨w3.heap.size,0,none⟩) (Nat.le_refl _) u).setCell (p:=⟨w3.heap.size,1,none⟩) (Nat.le_refl _) v);have HL:=hid hl;clear h4 hps hP hb4 hr4 hu4 hu4' hpr hl;go_wp2;refine bodyPost_ret (v:=.agg #[.int .i64 1,.slice A 3 c]) ?_ rfl ?_
  ·simp[results,Tryz.results58,go_sem,c0,c1,e0,e1,hne,hne2]
  ·rw[HL.out] at h1 ⊢
   exact FIN.out _ _ 1 A ps c _ _ HF.out h1 h2 (HP.out _ _) (HU4.out _ _) ((by apply_rules[uUe,uUa,uUb,uUc,uUd]))
end
section
def MadeEnd(w:World)(e:Ending)(w':World):Prop:=
 ∃ (fmt:Int) (A:Option Addr) (c:Nat) (ps:List St.Pt),e=.returned (.agg #[.int .i64 fmt,.slice A ps.length c])/\FromS fmt ps/\PartsAt w' A ps/\ps.length<=c/\c<=9223372036854775807/\Und w w'
theorem made10_any(A:Option Addr)(n c:Nat)(zs:List Int)(w:World)(hz:zs.length=n)(hn:n<=9223372036854775807)(hI:IntsAt w A zs) :
  Calls Tryz.prog 20 #[.slice A n c] w (MadeEnd w):=by
 have hw1:Und w (w.alloc (.cells #[.int .i64 0,.slice none 0 0] 25)):=(by apply_rules[uUe,uUa,uUb,uUc,uUd]);have hdoc:=hid (mdoc_gen _ _ 0 _ (GenP.fresh (w:=w.alloc (.cells #[.int .i64 0,.slice none 0 0] 25)) (c:=c) (T:=61) hn hz (hI.und hw1)) (by omega));rw[show (w.alloc (.cells #[.int .i64 0,.slice none 0 0] 25)).heap.size=w.heap.size+1 by simp] at hdoc;clear hI;go_enter Tryz.func20,Tryz.ntmps20;go_wp2_with fail;refine hdoc.out.mono ?_;rintro e w2 ⟨fmt,A2,c2,ps,rfl,hF,hP,h1,h2,hk⟩;have hu2:Und w w2:=((Und.refl w).alloc _ |>.alloc _).of_gb hk (fun g e=>by cases e;omega);have hb2:=(hk.block w.heap.size (by simp;omega) (by simp)).trans ((((Und.refl _).alloc _).below.block w.heap.size (by simp)).trans (heap_alloc_new w (.cells #[.int .i64 0,.slice none 0 0] 25)));have d0:w2.cell? ⟨w.heap.size,0,none⟩=some (.int .i64 0):=zcH hb2 0;have d1:w2.cell? ⟨w.heap.size,1,none⟩=some (.slice none 0 0):=zcH hb2 1;have f0:w2.frozen? ⟨w.heap.size,0,none⟩=false:=zfH hb2 0;have f1:w2.frozen? ⟨w.heap.size,1,none⟩=false:=zfH hb2 1;haveI:LtW w.heap.size w2:=LtW.of (lt_of_heap hb2)
 have HE:=hid (fun u v=>(show MadeEnd w (.returned (.agg #[.int .i64 fmt,.slice A2 ps.length c2])) ((w2.setCell ⟨w.heap.size,0,none⟩ u).setCell ⟨w.heap.size,1,none⟩ v) from
  ⟨fmt,A2,c2,ps,rfl,hF,parts_set hP hb2 u v,h1,h2,(hu2.setCell (p:=⟨w.heap.size,0,none⟩) (Nat.le_refl _) u).setCell (p:=⟨w.heap.size,1,none⟩) (Nat.le_refl _) v⟩))
 clear hF hP hk hu2 hb2 hdoc;go_wp2;refine bodyPost_ret (v:=.agg #[.int .i64 fmt,.slice A2 ps.length c2]) ?_ rfl ?_
 ·simp[results,Tryz.results20,go_sem,d0,d1]
 ·exact HE.out _ _
end
end Go.Proofs.YthoemdibbldndaaGreatDoor
