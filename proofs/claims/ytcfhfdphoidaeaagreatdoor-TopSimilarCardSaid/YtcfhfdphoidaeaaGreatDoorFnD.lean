/- The contracts of match.Validate, penalty.Validate and Points of none, score.Context. -/
import Derived.Test.YtcfhfdphoidaeaaGreatDoorFnB
import Derived.Test.YtcfhfdphoidaeaaGreatDoorFnC
set_option linter.unusedVariables false
set_option linter.unusedSimpArgs false
set_option linter.all false
namespace Go.Proofs.YtcfhfdphoidaeaaGreatDoor
open Go.RowKit
def qryV(Q:Option Addr)(m k:Nat):Value:=.agg #[.slice Q m k,.string ⟨#[]⟩,.string ⟨#[]⟩,.int .i64 0,.int .i64 1,.int .i64 3]
set_option maxRecDepth 20000
set_option maxHeartbeats 12800000
theorem qvalid_any(Q:Option Addr)(m k:Nat)(f:List St.It)(w:World)(hm:f.length=m)(h0:0<m)(hf:St.Fr.FragOk f)(hk:m<=k)(hk63:k<=9223372036854775807)(hQ:ItemsAt w Q f) :
  Calls Tryz.prog 35 #[qryV Q m k] w fun e w'=>e=.returned (.int .i64 0)/\Und w w':=by
 have hl:=hf.len;have HTT:=hid (show tot f<=700 from hf.txt);have H1:=hid (fun W (u:Und w W)=>ivalid_any Q m k f W hm hk hk63 (hQ.und u) (by omega) (Nat.le_trans HTT.out (by omega)));rw[hf.valid] at H1;have HP:=hid parse0_any;have z0:((m:Int)==0)=false:=by simp;omega
 clear hQ hf hm;unfold qryV;go_enter Tryz.func35,Tryz.ntmps35;go_wp2_with fail;refine(H1.out _ (by apply_rules[uUe,uUa,uUb,uUc,uUd])).mono ?_;rintro e w1 ⟨rfl,X1,rfl⟩;go_wp2_with (go_at_call 75;refine(HP.out _).mono ?_;rintro e w' ⟨rfl,X,rfl⟩);go_ret;exact⟨rfl,(by apply_rules[uUe,uUa,uUb,uUc,uUd])⟩
theorem pval0_any(w:World):Calls Tryz.prog 36 #[.slice none 0 0] w fun e w'=>e=.returned (.int .i64 0)/\w'=w:=by
 go_enter Tryz.func36,Tryz.ntmps36;go_wp2_with fail;refine wp_loop_rounds 1 ?_;rw[rounds_succ];go_wp2;go_ret;exact⟨rfl,rfl⟩
theorem points0_any(v:Value)(cs:Array Value)(hv:v=.agg cs)(x:Value)(w:World):Calls Tryz.prog 92 #[.slice none 0 0,v,x] w fun e w'=>e=.returned (.int .i64 0)/\Und w w':=by
 subst hv;go_enter Tryz.func92,Tryz.ntmps92;go_wp2_with fail;refine wp_loop_rounds 1 ?_;rw[rounds_succ];go_wp2;go_ret;exact⟨rfl,(by apply_rules[uUe,uUa,uUb,uUc,uUd])⟩
theorem ctx0_any(A B:Option Addr)(n c d:Nat)(Q:Option Addr)(m k:Nat)(w:World):Calls Tryz.prog 93 #[entV A B n c d,qryV Q m k] w fun e w'=>e=.returned (.int .i64 0)/\Und w w':=by
 unfold entV qryV;go_enter Tryz.func93,Tryz.ntmps93;go_wp2;go_ret;exact⟨rfl,(by apply_rules[uUe,uUa,uUb,uUc,uUd])⟩
theorem percent_le(a b:List St.It):St.percentL a b<=100:=by
 unfold St.percentL
 split
 ·exact Nat.le_refl _
 ·rename_i h
  refine Nat.div_le_of_le_mul ?_;have:max (St.totalT a) (St.totalT b)-St.distL a b<=max (St.totalT a) (St.totalT b):=Nat.sub_le _ _
  calc 100*(max (St.totalT a) (St.totalT b)-St.distL a b)<=100*max (St.totalT a) (St.totalT b):=Nat.mul_le_mul_left _ this
   _=max (St.totalT a) (St.totalT b)*100:=Nat.mul_comm _ _
theorem heap_set_other{w:World}{b g:Nat}(i:Nat)(h:g ≠ b)(v:Value)(hg:g<w.heap.size):(w.setCell ⟨b,i,none⟩ v).heap[g]?=w.heap[g]?:=(gb_set w ⟨b,i,none⟩ v).block g hg (by simpa using h)
theorem compare_any(A B:Option Addr)(n c d:Nat)(TA:Option Addr)(na ca:Nat)(a:List St.It)(TB:Option Addr)(nb cb:Nat)(b:List St.It)(Q:Option Addr)(m k:Nat)(w:World)(hna:a.length=na)(hnb:b.length=nb)(hA:ItemsAt w TA a)(hB:ItemsAt w TB b)(hl:na<=1000000)(hl':nb<=1000000)(ht:tot a<=1000000000)(ht':tot b<=1000000000) :
  Calls Tryz.prog 39 #[entV A B n c d,.slice TA na ca,.slice TB nb cb,.slice none 0 0,qryV Q m k] w fun e w'=>e=.returned (.agg #[.int .i64 0,.int .i64 ((St.percentL a b:Nat):Int),.int .i64 0,.int .i64 0,.int .i64 ((St.percentL a b:Nat):Int)])/\Und w w':=by
 have HPC0:=hid (fun W (u:Und w W)=>percent_any TA na ca a TB nb cb b W hna hnb (hA.und u) (hB.und u) hl hl' ht ht');have hp100:=percent_le a b;obtain⟨p,hp⟩:∃ p,St.percentL a b=p:=⟨_,rfl⟩;rw[hp] at HPC0 hp100 ⊢;have HC0:=hid (fun W=>ctx0_any A B n c d Q m k W);clear hA hB hna hnb hp;unfold entV qryV at *;go_enter Tryz.func39,Tryz.ntmps39;go_wp2_with fail;obtain⟨eb,heb⟩:∃ eb,w.heap.size=eb:=⟨_,rfl⟩;have h1:=heap_alloc_new w (.cells #[.slice A n c,.slice B n d,.string ⟨#[]⟩,.string ⟨#[]⟩,.string ⟨#[]⟩,.string ⟨#[]⟩,.int .i64 0,.int .i64 1] 36 (0,0));have h2:=heap_alloc_new (w.alloc (.cells #[.slice A n c,.slice B n d,.string ⟨#[]⟩,.string ⟨#[]⟩,.string ⟨#[]⟩,.string ⟨#[]⟩,.int .i64 0,.int .i64 1] 36)) (.cells #[.slice Q m k,.string ⟨#[]⟩,.string ⟨#[]⟩,.int .i64 0,.int .i64 1,.int .i64 3] 41 (0,0));have h3:=heap_alloc_new ((w.alloc (.cells #[.slice A n c,.slice B n d,.string ⟨#[]⟩,.string ⟨#[]⟩,.string ⟨#[]⟩,.string ⟨#[]⟩,.int .i64 0,.int .i64 1] 36)).alloc (.cells #[.slice Q m k,.string ⟨#[]⟩,.string ⟨#[]⟩,.int .i64 0,.int .i64 1,.int .i64 3] 41)) (.cells #[.int .i64 0,.int .i64 0,.int .i64 0,.int .i64 0,.int .i64 0] 48 (0,0));simp only[World.size_alloc] at h1 h2 h3;rw[heb] at h1 h2 h3 ⊢;refine gen_region (fun W=>Und w W/\W.heap[eb]?=some (.cells #[.slice A n c,.slice B n d,.string ⟨#[]⟩,.string ⟨#[]⟩,.string ⟨#[]⟩,.string ⟨#[]⟩,.int .i64 0,.int .i64 1] 36 (0,0))/\W.heap[eb+1]?=some (.cells #[.slice Q m k,.string ⟨#[]⟩,.string ⟨#[]⟩,.int .i64 0,.int .i64 1,.int .i64 3] 41 (0,0))/\W.heap[eb+1+1]?=some (.cells #[.int .i64 0,.int .i64 0,.int .i64 0,.int .i64 0,.int .i64 0] 48 (0,0))) ⟨(by apply_rules[uUe,uUa,uUb,uUc,uUd]),?_,?_,h3⟩ (fun W3 h9=>?_)
 ·exact(((Und.refl (w.alloc (.cells #[.slice A n c,.slice B n d,.string ⟨#[]⟩,.string ⟨#[]⟩,.string ⟨#[]⟩,.string ⟨#[]⟩,.int .i64 0,.int .i64 1] 36))).alloc _).alloc _).below.block _ (by simp;omega) |>.trans h1
 ·exact((Und.refl ((w.alloc (.cells #[.slice A n c,.slice B n d,.string ⟨#[]⟩,.string ⟨#[]⟩,.string ⟨#[]⟩,.string ⟨#[]⟩,.int .i64 0,.int .i64 1] 36)).alloc (.cells #[.slice Q m k,.string ⟨#[]⟩,.string ⟨#[]⟩,.int .i64 0,.int .i64 1,.int .i64 3] 41))).alloc _).below.block _ (by simp;omega) |>.trans h2
 clear h1 h2 h3;obtain⟨hu3,he3,hq3,hr3⟩:=h9;obtain⟨qb,hqb⟩:∃ qb,eb+1=qb:=⟨_,rfl⟩;rw[hqb] at hq3 hr3 ⊢;obtain⟨rb,hrb⟩:∃ rb,qb+1=rb:=⟨_,rfl⟩;rw[hrb] at hr3 ⊢;have HU3:=hid hu3;have HEB3:=hid he3;have HQB3:=hid hq3;have HRB:=hid hr3;have HEB:=hid (lt_of_heap he3);have HQB:=hid (lt_of_heap hq3);have HORD:=hid (And.intro heb (And.intro hqb hrb));have HPC:=hid (fun W (u:Und W3 W)=>HPC0.out W (hu3.trans u));have HPT:=hid (fun W=>points0_any (.agg #[.slice A n c,.slice B n d,.string ⟨#[]⟩,.string ⟨#[]⟩,.string ⟨#[]⟩,.string ⟨#[]⟩,.int .i64 0,.int .i64 1]) _ rfl (.int .i64 0) W);have r0:=zcH he3 0;have r1:=zcH he3 1;have r2:=zcH he3 2;have r3:=zcH he3 3;have r4:=zcH he3 4;have r5:=zcH he3 5;have r6:=zcH he3 6;have r7:=zcH he3 7;have q0:=zcH hq3 0;have q1:=zcH hq3 1;have q2:=zcH hq3 2;have q3:=zcH hq3 3;have q4:=zcH hq3 4;have q5:=zcH hq3 5;simp only[List.getElem?_toArray,List.getElem?_cons_zero,List.getElem?_cons_succ] at r0 r1 r2 r3 r4 r5 r6 r7 q0 q1 q2 q3 q4 q5;clear hu3 he3 hq3 hr3 heb hqb hrb HPC0;refine wp_region_factsR (fun _ _=>True) (fun ρ L W=>Und W3 W/\(L 9=true->∃ b:Nat,ρ 9=.pointer (some ⟨b,0,none⟩)/\W3.heap.size<=b/\W.heap[b]?=some (.cells (if L 10=true then #[.int .i64 0,.int .i64 (p:Int),.int .i64 0,.int .i64 0,.int .i64 0] else #[.int .i64 0,.int .i64 0,.int .i64 0,.int .i64 0,.int .i64 0]) 48 (0,0)))) [fun v _=>v=.slice TA na ca,fun v _=>v=.slice TB nb cb,fun v _=>v=.int .i64 (p:Int),fun v _=>v=.slice none 0 0,fun v _=>v=.agg #[.slice A n c,.slice B n d,.string ⟨#[]⟩,.string ⟨#[]⟩,.string ⟨#[]⟩,.string ⟨#[]⟩,.int .i64 0,.int .i64 1],fun v _=>v=.pointer (some ⟨qb,3,none⟩),fun v _=>v=.int .i64 0,fun v _=>v=.int .i64 0,fun v _=>v=.agg #[.int .i64 0,.int .i64 (p:Int),.int .i64 0,.int .i64 0,.int .i64 0],fun v _=>∃ b:Nat,v=.pointer (some ⟨b,0,none⟩),noFact] (fun _=>trivial) (fun _ _ _ _ _=>trivial) (by kernel_rfl) (by rfl) (by kernel_rfl) (by kernel_rfl) ?frm ?hfr ?hI ?hob ?hend
 case hfr=>
  intro ρ;simp only[putAll,Act.put,zsA,zsB,zsC,Nat.zero_add,Nat.reduceAdd];exact rfl
 case hI=>
  intro ρ;exact⟨((by apply_rules[uUe,uUa,uUb,uUc,uUd]):Und W3 W3.drew),fun h=>by simp at h⟩
 case hob=>
  refine ObsG.cons (fun ρ L W hR hI hL hD hO hF K hK=>?_) ?_
  ·skip
   clear hF hO;simp only[Act.put,zsA,zsB,zsC] at hK ⊢;go_simp;refine hK _ _ trivial (by simpa [updB,upd] using hI) (fun W2 h2=>?_);rfl
  refine ObsG.cons (fun ρ L W hR hI hL hD hO hF K hK=>?_) ?_
  ·skip
   clear hF hO;simp only[Act.put,zsA,zsB,zsC] at hK ⊢;go_simp;refine hK _ _ trivial (by simpa [updB,upd] using hI) (fun W2 h2=>?_);rfl
  refine ObsG.cons (fun ρ L W hR hI hL hD hO hF K hK=>?_) ?_
  ·skip
   have f0:=allF_get hF (j:=0) (by decide);have f1:=allF_get hF (j:=1) (by decide);clear hF hO;simp only[Act.put,zsA,zsB,zsC] at hK ⊢;have e0:ρ 0=.slice TA na ca:=f0;have e1:ρ 1=.slice TB nb cb:=f1;rw[e0,e1] at hK ⊢;refine step_callF3 (o:=⟨some 14,_,_,_,_,_⟩) rfl 11 #[.slice TA na ca,.slice TB nb cb] _ (HPC.out W hI.1) ?_ ?_
   ·go_simp
   rintro e W2 ⟨rfl,hu⟩;refine⟨_,rfl,hK _ _ trivial ⟨hI.1.trans hu,fun h=>?_⟩ (fun W3 h3=>rfl)⟩;obtain⟨b,h1,h2,h3⟩:=hI.2 (by simpa [updB] using h);exact⟨b,by simpa [upd] using h1,h2,by simpa [updB] using (hu.below.block b (lt_of_heap h3)).trans h3⟩
  refine ObsG.cons (fun ρ L W hR hI hL hD hO hF K hK=>?_) ?_
  ·skip
   clear hF hO;simp only[Act.put,zsA,zsB,zsC] at hK ⊢;go_simp;refine hK _ _ trivial (by simpa [updB,upd] using hI) (fun W2 h2=>?_);rfl
  refine ObsG.cons (fun ρ L W hR hI hL hD hO hF K hK=>?_) ?_
  ·skip
   clear hF hO;simp only[Act.put,zsA,zsB,zsC] at hK ⊢;have yr0:=(hI.1.cell (p:=⟨eb,0,none⟩) HEB.out).trans r0;have yr1:=(hI.1.cell (p:=⟨eb,1,none⟩) HEB.out).trans r1;have yr2:=(hI.1.cell (p:=⟨eb,2,none⟩) HEB.out).trans r2;have yr3:=(hI.1.cell (p:=⟨eb,3,none⟩) HEB.out).trans r3;have yr4:=(hI.1.cell (p:=⟨eb,4,none⟩) HEB.out).trans r4;have yr5:=(hI.1.cell (p:=⟨eb,5,none⟩) HEB.out).trans r5;have yr6:=(hI.1.cell (p:=⟨eb,6,none⟩) HEB.out).trans r6;have yr7:=(hI.1.cell (p:=⟨eb,7,none⟩) HEB.out).trans r7;haveI:LtW eb W:=LtW.of (Nat.lt_of_lt_of_le HEB.out hI.1.size);go_simp;refine hK _ _ trivial (by simpa [updB,upd] using hI) (fun W2 h2=>?_);rfl
  refine ObsG.cons (fun ρ L W hR hI hL hD hO hF K hK=>?_) ?_
  ·skip
   clear hF hO;simp only[Act.put,zsA,zsB,zsC] at hK ⊢;go_simp;refine hK _ _ trivial (by simpa [updB,upd] using hI) (fun W2 h2=>?_);rfl
  refine ObsG.cons (fun ρ L W hR hI hL hD hO hF K hK=>?_) ?_
  ·skip
   have f5:=allF_get hF (j:=5) (by decide);clear hF hO;simp only[Act.put,zsA,zsB,zsC] at hK ⊢;have e5:ρ 5=.pointer (some ⟨qb,3,none⟩):=f5;rw[e5] at hK ⊢;have yq3:=(hI.1.cell (p:=⟨qb,3,none⟩) HQB.out).trans q3;haveI:LtW qb W:=LtW.of (Nat.lt_of_lt_of_le HQB.out hI.1.size);go_simp;refine hK _ _ trivial (by simpa [updB,upd] using hI) (fun W2 h2=>?_);rfl
  refine ObsG.cons (fun ρ L W hR hI hL hD hO hF K hK=>?_) ?_
  ·skip
   have f3:=allF_get hF (j:=3) (by decide);have f4:=allF_get hF (j:=4) (by decide);have f6:=allF_get hF (j:=6) (by decide);clear hF hO;simp only[Act.put,zsA,zsB,zsC] at hK ⊢;have e3:ρ 3=.slice none 0 0:=f3;have e4:ρ 4=.agg #[.slice A n c,.slice B n d,.string ⟨#[]⟩,.string ⟨#[]⟩,.string ⟨#[]⟩,.string ⟨#[]⟩,.int .i64 0,.int .i64 1]:=f4;have e6:ρ 6=.int .i64 0:=f6;rw[e3,e4,e6] at hK ⊢;refine step_callF3 (o:=⟨some 19,_,_,_,_,_⟩) rfl 92 #[.slice none 0 0,.agg #[.slice A n c,.slice B n d,.string ⟨#[]⟩,.string ⟨#[]⟩,.string ⟨#[]⟩,.string ⟨#[]⟩,.int .i64 0,.int .i64 1],.int .i64 0] _ (HPT.out W) ?_ ?_
   ·go_simp
   rintro e W2 ⟨rfl,hu⟩;refine⟨_,rfl,hK _ _ trivial ⟨hI.1.trans hu,fun h=>?_⟩ (fun W3 h3=>rfl)⟩;obtain⟨b,h1,h2,h3⟩:=hI.2 (by simpa [updB] using h);exact⟨b,by simpa [upd] using h1,h2,by simpa [updB] using (hu.below.block b (lt_of_heap h3)).trans h3⟩
  refine ObsG.cons (fun ρ L W hR hI hL hD hO hF K hK=>?_) ?_
  ·skip
   have f2:=allF_get hF (j:=2) (by decide);have f7:=allF_get hF (j:=7) (by decide);clear hF hO;simp only[Act.put,zsA,zsB,zsC] at hK ⊢;have e2:ρ 2=.int .i64 (p:Int):=f2;have e7:ρ 7=.int .i64 0:=f7;rw[e2,e7] at hK ⊢;go_simp;refine hK _ _ trivial (by simpa [updB,upd] using hI) (fun W2 h2=>?_);rfl
  refine ObsG.cons (fun ρ L W hR hI hL hD hO hF K hK=>?_) ?_
  ·skip
   clear hF hO;simp only[Act.put,zsA,zsB,zsC] at hK ⊢;have h10:L 10=false:=hD.not (p:=10) rfl (by decide) hL;go_simp;refine hK _ _ trivial ⟨hI.1.alloc _,fun _=>⟨W.heap.size,by simp[upd],hI.1.size,by rw[if_neg (by simp[updB,h10])];exact heap_alloc_new W _⟩⟩ (fun W2 h2=>⟨_,rfl⟩)
  refine ObsG.cons (fun ρ L W hR hI hL hD hO hF K hK=>?_) ?_
  ·skip
   have f8:=allF_get hF (j:=8) (by decide);have f9:=allF_get hF (j:=9) (by decide)
   have h9:L 9=true:=by
    cases h:L 9 with
    | true=>rfl
    | false=>
     have e:=hO 9 _ 11 rfl rfl h;obtain⟨b,hb⟩:=f9;rw[e] at hb;cases hb
   clear hF hO;simp only[Act.put,zsA,zsB,zsC] at hK ⊢;have e8:ρ 8=.agg #[.int .i64 0,.int .i64 (p:Int),.int .i64 0,.int .i64 0,.int .i64 0]:=f8;rw[e8] at hK ⊢;obtain⟨b,h1,h2,h3⟩:=hI.2 h9;rw[h1] at hK ⊢;rw[if_neg (by simp[hL])] at h3;haveI:LtW b W:=LtW.of (lt_of_heap h3);have fz0:W.frozen? ⟨b,0,none⟩=false:=zfH h3 0;have gz0:=zcH h3 0;simp only[List.getElem?_toArray,List.getElem?_cons_zero,List.getElem?_cons_succ] at gz0;have fz1:W.frozen? ⟨b,1,none⟩=false:=zfH h3 1;have gz1:=zcH h3 1;simp only[List.getElem?_toArray,List.getElem?_cons_zero,List.getElem?_cons_succ] at gz1;have fz2:W.frozen? ⟨b,2,none⟩=false:=zfH h3 2;have gz2:=zcH h3 2;simp only[List.getElem?_toArray,List.getElem?_cons_zero,List.getElem?_cons_succ] at gz2;have fz3:W.frozen? ⟨b,3,none⟩=false:=zfH h3 3;have gz3:=zcH h3 3;simp only[List.getElem?_toArray,List.getElem?_cons_zero,List.getElem?_cons_succ] at gz3;have fz4:W.frozen? ⟨b,4,none⟩=false:=zfH h3 4;have gz4:=zcH h3 4;simp only[List.getElem?_toArray,List.getElem?_cons_zero,List.getElem?_cons_succ] at gz4;go_simp
   refine hK undef _ trivial ⟨(RowAt.set_und (RowAt.set_und (RowAt.set_und (RowAt.set_und (RowAt.set_und hI.1 h2 0 (.int .i64 0)) h2 1 (.int .i64 (p:Int))) h2 2 (.int .i64 0)) h2 3 (.int .i64 0)) h2 4 (.int .i64 0)),fun _=>⟨b,by simpa [upd] using h1,h2,by
    rw[if_pos (by simp[updB])]
    exact(heap_setCell_same _ b 4 _ _ (.int .i64 0) (heap_setCell_same _ b 3 _ _ (.int .i64 0) (heap_setCell_same _ b 2 _ _ (.int .i64 0) (heap_setCell_same _ b 1 _ _ (.int .i64 (p:Int)) (heap_setCell_same _ b 0 _ _ (.int .i64 0) h3)))))⟩⟩ (fun _ _=>trivial)
  exact ObsG.nil
 case hend=>
  intro ρ L W hR hI hL hF;have h9:L 9=true:=hL 9 (by decide);have h10:L 10=true:=hL 10 (by decide);obtain⟨hu,hb⟩:=hI;obtain⟨b,h1,h2,h3⟩:=hb h9;rw[if_pos h10] at h3;rw[h1];have HUF:=hid (HU3.out.trans hu);have HB3:=hid h3;have HBL:=hid h2;have HRES:=hid ((hu.below.block rb (lt_of_heap HRB.out)).trans HRB.out);have HEX:=hid ((hu.below.block eb HEB.out).trans HEB3.out);have HQX:=hid ((hu.below.block qb HQB.out).trans HQB3.out);clear hu hb h1 h2 h3 h9 h10 hR hL hF;have HNE:=hid (show rb ≠ b from fun e=>by have h1:=lt_of_heap HRB.out;have h2:=HBL.out;omega);have HRBw:=hid (show w.heap.size<=rb from by obtain⟨o1,o2,o3⟩:=HORD.out;omega);have HBLw:=hid (show w.heap.size<=b from Nat.le_trans HU3.out.size HBL.out);have b0:=zcH HB3.out 0;have b1:=zcH HB3.out 1;have b2:=zcH HB3.out 2;have b3:=zcH HB3.out 3;have b4:=zcH HB3.out 4;simp only[List.getElem?_toArray,List.getElem?_cons_zero,List.getElem?_cons_succ] at b0 b1 b2 b3 b4;haveI:LtW b _:=LtW.of (lt_of_heap HB3.out);have fzb0:=zfH HB3.out 0;have fzb1:=zfH HB3.out 1;have fzb2:=zfH HB3.out 2;have fzb3:=zfH HB3.out 3;have fzb4:=zfH HB3.out 4;clear r0 r1 r2 r3 r4 r5 r6 r7 q0 q1 q2 q3 q4 q5
  by_cases hpe:p=100
  ·have z1:(((100:Nat):Int)==100)=true:=rfl
   subst hpe;have e0:=zcH HEX.out 0;have e1:=zcH HEX.out 1;have e2:=zcH HEX.out 2;have e3:=zcH HEX.out 3;have e4:=zcH HEX.out 4;have e5:=zcH HEX.out 5;have e6:=zcH HEX.out 6;have e7:=zcH HEX.out 7;simp only[List.getElem?_toArray,List.getElem?_cons_zero,List.getElem?_cons_succ] at e0 e1 e2 e3 e4 e5 e6 e7;haveI:LtW eb _:=LtW.of (lt_of_heap HEX.out);have q0:=zcH HQX.out 0;have q1:=zcH HQX.out 1;have q2:=zcH HQX.out 2;have q3:=zcH HQX.out 3;have q4:=zcH HQX.out 4;have q5:=zcH HQX.out 5;simp only[List.getElem?_toArray,List.getElem?_cons_zero,List.getElem?_cons_succ] at q0 q1 q2 q3 q4 q5;haveI:LtW qb _:=LtW.of (lt_of_heap HQX.out);go_wp2_with fail;refine(HC0.out _).mono ?_;rintro e wz ⟨rfl,huz⟩;have HBZ:=hid ((huz.below.block b (lt_of_heap HB3.out)).trans HB3.out);have HRZ:=hid ((huz.below.block rb (lt_of_heap HRES.out)).trans HRES.out);have HUZ:=hid (HUF.out.trans huz);clear huz b0 b1 b2 b3 b4 e0 e1 e2 e3 e4 e5 e6 e7 q0 q1 q2 q3 q4 q5;clear fzb0;clear fzb1;clear fzb2;clear fzb3;clear fzb4;have b0:=zcH HBZ.out 0;have b1:=zcH HBZ.out 1;have b2:=zcH HBZ.out 2;have b3:=zcH HBZ.out 3;have b4:=zcH HBZ.out 4;simp only[List.getElem?_toArray,List.getElem?_cons_zero,List.getElem?_cons_succ] at b0 b1 b2 b3 b4;haveI:LtW b _:=LtW.of (lt_of_heap HBZ.out);have fzb0:=zfH HBZ.out 0;have fzb1:=zfH HBZ.out 1;have fzb2:=zfH HBZ.out 2;have fzb3:=zfH HBZ.out 3;have fzb4:=zfH HBZ.out 4;have rr0:=zcH HRZ.out 0;have rr1:=zcH HRZ.out 1;have rr2:=zcH HRZ.out 2;have rr3:=zcH HRZ.out 3;have rr4:=zcH HRZ.out 4;simp only[List.getElem?_toArray,List.getElem?_cons_zero,List.getElem?_cons_succ] at rr0 rr1 rr2 rr3 rr4;haveI:LtW rb _:=LtW.of (lt_of_heap HRZ.out);have fzrb0:=zfH HRZ.out 0;have fzrb1:=zfH HRZ.out 1;have fzrb2:=zfH HRZ.out 2;have fzrb3:=zfH HRZ.out 3;have fzrb4:=zfH HRZ.out 4;have hr2:=(heap_set_other 2 HNE.out (.int .i64 0) (lt_of_heap HRZ.out)).trans HRZ.out;have hmax:max (100:Int) 0=100:=by decide
   have hcr:∀ (X:World) (v:Value) (i j:Nat),(X.setCell ⟨b,j,none⟩ v).cell? ⟨rb,i,none⟩=X.cell? ⟨rb,i,none⟩:=fun X v i j=>set_ne v HNE.out
   have HR9:=hid ((heap_setCell_same _ rb 4 _ _ (.int .i64 100) (heap_setCell_same _ rb 3 _ _ (.int .i64 0) (heap_setCell_same _ rb 2 _ _ (.int .i64 0) (heap_setCell_same _ rb 1 _ _ (.int .i64 100) (heap_setCell_same _ rb 0 _ _ (.int .i64 0) ((heap_set_other 4 HNE.out (.int .i64 100) (lt_of_heap hr2)).trans hr2)))))));have HF9:=hid (RowAt.set_und (RowAt.set_und (RowAt.set_und (RowAt.set_und (RowAt.set_und (RowAt.set_und (RowAt.set_und HUZ.out HBLw.out 2 (.int .i64 0)) HBLw.out 4 (.int .i64 100)) HRBw.out 0 (.int .i64 0)) HRBw.out 1 (.int .i64 100)) HRBw.out 2 (.int .i64 0)) HRBw.out 3 (.int .i64 0)) HRBw.out 4 (.int .i64 100));go_wp2;have hr8:=HR9.out;have hu8:=HF9.out;generalize ((((((wz.setCell ⟨b,2,none⟩ (.int .i64 0)).setCell ⟨b,4,none⟩ (.int .i64 100)).setCell ⟨rb,0,none⟩ (.int .i64 0)).setCell ⟨rb,1,none⟩ (.int .i64 100)).setCell ⟨rb,2,none⟩ (.int .i64 0)).setCell ⟨rb,3,none⟩ (.int .i64 0)).setCell ⟨rb,4,none⟩ (.int .i64 100)=WF at hr8 hu8 ⊢;simp only[zsA,zsB,zsC] at hr8;clear HR9 HF9;exact bodyPost_ret (results_cell_row rfl _ _ rb _ _ _ _ rfl hr8 Tryz.underlying48 rfl (by kernel_rfl)) rfl ⟨rfl,hu8⟩
  ·have z1:((p:Int)==100)=false:=by simp;omega
   have rr0:=zcH HRES.out 0;have rr1:=zcH HRES.out 1;have rr2:=zcH HRES.out 2;have rr3:=zcH HRES.out 3;have rr4:=zcH HRES.out 4;simp only[List.getElem?_toArray,List.getElem?_cons_zero,List.getElem?_cons_succ] at rr0 rr1 rr2 rr3 rr4;haveI:LtW rb _:=LtW.of (lt_of_heap HRES.out);have fzrb0:=zfH HRES.out 0;have fzrb1:=zfH HRES.out 1;have fzrb2:=zfH HRES.out 2;have fzrb3:=zfH HRES.out 3;have fzrb4:=zfH HRES.out 4;have hmax:max (p:Int) 0=p:=by omega
   have hcr:∀ (X:World) (v:Value) (i j:Nat),(X.setCell ⟨b,j,none⟩ v).cell? ⟨rb,i,none⟩=X.cell? ⟨rb,i,none⟩:=fun X v i j=>set_ne v HNE.out
   have HR9:=hid ((heap_setCell_same _ rb 4 _ _ (.int .i64 (p:Int)) (heap_setCell_same _ rb 3 _ _ (.int .i64 0) (heap_setCell_same _ rb 2 _ _ (.int .i64 0) (heap_setCell_same _ rb 1 _ _ (.int .i64 (p:Int)) (heap_setCell_same _ rb 0 _ _ (.int .i64 0) ((heap_set_other 4 HNE.out (.int .i64 (p:Int)) (lt_of_heap HRES.out)).trans HRES.out)))))));have HF9:=hid (RowAt.set_und (RowAt.set_und (RowAt.set_und (RowAt.set_und (RowAt.set_und (RowAt.set_und HUF.out HBLw.out 4 (.int .i64 (p:Int))) HRBw.out 0 (.int .i64 0)) HRBw.out 1 (.int .i64 (p:Int))) HRBw.out 2 (.int .i64 0)) HRBw.out 3 (.int .i64 0)) HRBw.out 4 (.int .i64 (p:Int)));go_wp2;have hr8:=HR9.out;have hu8:=HF9.out;generalize ((((((W).setCell ⟨b,4,none⟩ (.int .i64 (p:Int))).setCell ⟨rb,0,none⟩ (.int .i64 0)).setCell ⟨rb,1,none⟩ (.int .i64 (p:Int))).setCell ⟨rb,2,none⟩ (.int .i64 0)).setCell ⟨rb,3,none⟩ (.int .i64 0)).setCell ⟨rb,4,none⟩ (.int .i64 (p:Int))=WF at hr8 hu8 ⊢;simp only[zsA,zsB,zsC] at hr8;clear HR9 HF9;exact bodyPost_ret (results_cell_row rfl _ _ rb _ _ _ _ rfl hr8 Tryz.underlying48 rfl (by kernel_rfl)) rfl ⟨rfl,hu8⟩
end Go.Proofs.YtcfhfdphoidaeaaGreatDoor
set_option linter.all false
namespace Go.Proofs.YtcfhfdphoidaeaaGreatDoor
open Go.RowKit
set_option maxRecDepth 20000
set_option maxHeartbeats 12800000
theorem clonei_any(A:Option Addr)(n c:Nat)(f:List St.It)(w:World)(hn:f.length=n)(h0:0<n)(h:ItemsAt w A f)(hl:n<=1000000) :
  Calls Tryz.prog 81 #[.slice A n c] w fun e w'=>∃ v,e=.returned v/\w'.ownsRow w.heap.size 66 3 v n (cellsIt f)/\Und w w':=by
 obtain⟨i0,hi,hz0,hz1,hz2⟩:=info_parts info_item;have q:=fun (w:World) (a:Option Addr) (n c n' c':Nat)=>Lib.run_eql_slice_nil w 24 66 a n c n' c' Tryz.underlying24
 obtain⟨b,off,rfl,hb,_⟩:=h (by omega);have hcells:∀ (w1:World),Und w w1->∀ j u,(cellsIt f)[j]?=some u->w1.cell? ((⟨b,off,none⟩:Addr).add j)=some u:=fun w1 hu=>(h.und hu).cells
 have HC:=hid hcells;have HO:=hid (cellsIt_one f);have hlen:=hid (show (cellsIt f).length=n*3 by rw[cells_len,hn]);clear hcells h;go_enter Tryz.func81,Tryz.ntmps81;go_wp2_with (at_builtin;refine wpList_append_own _ rfl _ _ 24 rfl w.heap.size 66 i0 (.agg #[.int .i64 0,.string ⟨#[]⟩,.int .i64 0]) 3 32 Tryz.underlying24 hi hz0 hz1 hz2 rfl (by decide) _ _ _ rfl (World.ownsRow_made w #[] 0 (Nat.le_refl _) (Nat.zero_le _) rfl) ⟨b,off,none⟩ n c (cellsIt f) rfl ?qc1 ?qc2 ?qc3 ?qc4 ?qc5 ?qc6 ?_)
 case qc1=>exact hlen.out
 case qc2=>exact HC.out _ (by apply_rules[uUe,uUa,uUb,uUc,uUd])
 case qc3=>exact HO.out
 case qc4=>unfold maxLen;omega
 case qc5=>omega
 case qc6=>simp
 intro v' w1 hown hgrow hnil;have hu:Und w w1:=Und.mk (((Below.refl _ w).alloc (Nat.le_refl _) _).grown hgrow (by simp) (by intro k hk;simp[Value.ownBlock] at hk;omega));have HH:=hid (And.intro hown hu);clear hown hu hgrow hnil;go_wp2;go_ret;exact⟨v',rfl,by simpa using HH.out.1,HH.out.2⟩
def clC(x y:Value):Array Value:=#[x,y,.string ⟨#[]⟩,.string ⟨#[]⟩,.string ⟨#[]⟩,.string ⟨#[]⟩,.int .i64 0,.int .i64 1]
theorem clone_any(A B:Option Addr)(n c d:Nat)(f:List St.It)(w:World)(hn:f.length=n)(h0:0<n)(hA:ItemsAt w A f)(hB:ItemsAt w B f)(hl:n<=1000000) :
  Calls Tryz.prog 31 #[entV A B n c d] w fun e w'=>∃ A1 A2 c1 c2,e=.returned (entV A1 A2 n c1 c2)/\n<=c1/\c1<=maxLen/\n<=c2/\c2<=maxLen/\w'.ownsRow w.heap.size 66 3 (.slice A1 n c1) n (cellsIt f)/\w'.ownsRow w.heap.size 66 3 (.slice A2 n c2) n (cellsIt f)/\Und w w':=by
 have HN:=hid hn;have HA0:=hid hA;have HB0:=hid hB;clear hA hB hn;unfold entV;go_enter Tryz.func31,Tryz.ntmps31;go_wp2_with fail;obtain⟨eb,heb⟩:∃ eb,w.heap.size=eb:=⟨_,rfl⟩;have h1:=heap_alloc_new w (.cells #[.slice A n c,.slice B n d,.string ⟨#[]⟩,.string ⟨#[]⟩,.string ⟨#[]⟩,.string ⟨#[]⟩,.int .i64 0,.int .i64 1] 36 (0,0));have h2:=heap_alloc_new (w.alloc (.cells #[.slice A n c,.slice B n d,.string ⟨#[]⟩,.string ⟨#[]⟩,.string ⟨#[]⟩,.string ⟨#[]⟩,.int .i64 0,.int .i64 1] 36)) (.cells #[.slice none 0 0,.slice none 0 0,.string ⟨#[]⟩,.string ⟨#[]⟩,.string ⟨#[]⟩,.string ⟨#[]⟩,.int .i64 0,.int .i64 0] 36 (0,0));simp only[World.size_alloc] at h1 h2;rw[heb] at h1 h2 ⊢;refine gen_region (fun W=>Und w W/\W.heap[eb]?=some (.cells #[.slice A n c,.slice B n d,.string ⟨#[]⟩,.string ⟨#[]⟩,.string ⟨#[]⟩,.string ⟨#[]⟩,.int .i64 0,.int .i64 1] 36 (0,0))/\W.heap[eb+1]?=some (.cells #[.slice none 0 0,.slice none 0 0,.string ⟨#[]⟩,.string ⟨#[]⟩,.string ⟨#[]⟩,.string ⟨#[]⟩,.int .i64 0,.int .i64 0] 36 (0,0))) ⟨(by apply_rules[uUe,uUa,uUb,uUc,uUd]),(((Und.refl (w.alloc (.cells #[.slice A n c,.slice B n d,.string ⟨#[]⟩,.string ⟨#[]⟩,.string ⟨#[]⟩,.string ⟨#[]⟩,.int .i64 0,.int .i64 1] 36))).alloc _).below.block _ (by simp;omega)).trans h1,h2⟩ (fun W3 h9=>?_);clear h1 h2;obtain⟨hu3,he3,hr3⟩:=h9;obtain⟨rb,hrb⟩:∃ rb,eb+1=rb:=⟨_,rfl⟩;rw[hrb] at hr3 ⊢;have HU3:=hid hu3;have HEB3:=hid he3;have HRB:=hid hr3;have HNE:=hid (show rb ≠ eb from by omega);have HEBL:=hid (show w.heap.size<=eb from by omega);have HRBL:=hid (show w.heap.size<=rb from by omega)
 have hlow:∀ (X:Option Addr),ItemsAt w X f->∀ W,W3.grownBy W (some eb)->ItemsAt W X f:=fun X hX W hW hp=>by
  obtain⟨b,off,e,hb,hc⟩:=hX hp;have hb3:=Nat.lt_of_lt_of_le hb hu3.size;have hne:some b ≠ some eb:=fun e=>by cases e;omega
  refine⟨b,off,e,Nat.lt_of_lt_of_le hb3 hW.size,fun j hj=>?_⟩;obtain⟨k0,k1,k2⟩:=hc j hj;exact⟨(gb_cell hW (p:=⟨b,_,none⟩) hb3 hne).trans ((hu3.cell (p:=⟨b,_,none⟩) hb).trans k0),(gb_cell hW (p:=⟨b,_,none⟩) hb3 hne).trans ((hu3.cell (p:=⟨b,_,none⟩) hb).trans k1),(gb_cell hW (p:=⟨b,_,none⟩) hb3 hne).trans ((hu3.cell (p:=⟨b,_,none⟩) hb).trans k2)⟩
 have HCA:=hid (fun W (hW:W3.grownBy W (some eb))=>clonei_any A n c f W HN.out h0 (hlow A HA0.out W hW) hl);have HCB:=hid (fun W (hW:W3.grownBy W (some eb))=>clonei_any B n d f W HN.out h0 (hlow B HB0.out W hW) hl);clear hu3 he3 hr3 heb hrb hlow;refine wp_region_factsR (fun _ _=>True) (fun ρ L W=>W3.grownBy W (some eb)/\W.heap[eb]?=some (.cells (clC (if L 7=true then ρ 2 else .slice A n c) (if L 9=true then ρ 5 else .slice B n d)) 36 (0,0))/\(L 2=true->W.ownsRow W3.heap.size 66 3 (ρ 2) n (cellsIt f))/\(L 5=true->W.ownsRow W3.heap.size 66 3 (ρ 5) n (cellsIt f))) [fun v _=>v=.pointer (some ⟨eb,0,none⟩),fun v _=>v=.slice A n c,fun v _=>∃ (A:Option Addr) (c:Nat),v=.slice A n c,fun v _=>v=.pointer (some ⟨eb,1,none⟩),fun v _=>v=.slice B n d,fun v _=>∃ (A:Option Addr) (c:Nat),v=.slice A n c,fun v _=>v=.pointer (some ⟨eb,0,none⟩),noFact,fun v _=>v=.pointer (some ⟨eb,1,none⟩),noFact] (fun _=>trivial) (fun _ _ _ _ _=>trivial) (by kernel_rfl) (by rfl) (by kernel_rfl) (by kernel_rfl) ?frk ?hfr ?hI ?hob ?hend
 case hfr=>
  intro ρ;simp only[putAll,Act.put,zsA,zsB,zsC,Nat.zero_add,Nat.reduceAdd];exact rfl
 case hI=>
  intro ρ;exact⟨((by apply_rules[uUe,uUa,uUb,uUc,uUd]):Und W3 W3.drew).gb _,by rw[if_neg (by simp),if_neg (by simp)];exact HEB3.out,fun h=>by simp at h,fun h=>by simp at h⟩
 case hob=>
  refine ObsG.cons (fun ρ L W hR hI hL hD hO hF K hK=>?_) ?_
  ·skip
   clear hF hO;simp only[Act.put,zsA,zsB,zsC] at hK ⊢;go_simp;refine hK _ _ trivial (by simpa [updB,upd] using hI) (fun W2 h2=>?_);rfl
  refine ObsG.cons (fun ρ L W hR hI hL hD hO hF K hK=>?_) ?_
  ·skip
   have f0:=allF_get hF (j:=0) (by decide);have hp0:L 2=false:=hD.not (p:=2) rfl (by decide) hL;have hp1:L 7=false:=hD.not (p:=7) rfl (by decide) hp0;clear hF hO;simp only[Act.put,zsA,zsB,zsC] at hK ⊢;have e0:ρ 0=.pointer (some ⟨eb,0,none⟩):=f0;rw[e0] at hK ⊢;have hb:=hI.2.1;haveI:LtW eb W:=LtW.of (lt_of_heap hb);have d:=zcH hb 0;simp only[clC,hp1,Bool.false_eq_true,if_false,List.getElem?_toArray,List.getElem?_cons_zero,List.getElem?_cons_succ] at d;go_simp;refine hK _ _ trivial (by simpa [updB,upd] using hI) (fun W2 h2=>?_);rfl
  refine ObsG.cons (fun ρ L W hR hI hL hD hO hF K hK=>?_) ?_
  ·skip
   have f1:=allF_get hF (j:=1) (by decide);have hps:L 7=false:=hD.not (p:=7) rfl (by decide) hL;clear hF hO;simp only[Act.put,zsA,zsB,zsC] at hK ⊢;have e1:ρ 1=.slice A n c:=f1;rw[e1] at hK ⊢;refine step_callF3 (o:=⟨some 5,_,_,_,_,_⟩) rfl 81 #[.slice A n c] _ (HCA.out W hI.1) ?_ ?_
   ·go_simp
   rintro e W2 ⟨v,rfl,hown,hu⟩;obtain⟨hi1,hi2,hi3,hi4⟩:=hI
   refine⟨v,rfl,hK _ _ trivial ⟨gb_und hi1 hu,?_,?_,?_⟩ (fun W4 h4=>by
    obtain⟨A',c',e,_⟩:=own_slice hown
    exact⟨A',c',e⟩)⟩
   ·have h9:=(hu.below.block eb (lt_of_heap hi2)).trans hi2
    simpa [updB,upd,hps] using h9
   ·intro _
    simpa [upd] using own_low hown hi1.size
   ·intro h
    simpa [upd] using own_und hu (hi4 (by simpa [updB] using h))
  refine ObsG.cons (fun ρ L W hR hI hL hD hO hF K hK=>?_) ?_
  ·skip
   clear hF hO;simp only[Act.put,zsA,zsB,zsC] at hK ⊢;go_simp;refine hK _ _ trivial (by simpa [updB,upd] using hI) (fun W2 h2=>?_);rfl
  refine ObsG.cons (fun ρ L W hR hI hL hD hO hF K hK=>?_) ?_
  ·skip
   have f3:=allF_get hF (j:=3) (by decide);have hp0:L 5=false:=hD.not (p:=5) rfl (by decide) hL;have hp1:L 9=false:=hD.not (p:=9) rfl (by decide) hp0;clear hF hO;simp only[Act.put,zsA,zsB,zsC] at hK ⊢;have e3:ρ 3=.pointer (some ⟨eb,1,none⟩):=f3;rw[e3] at hK ⊢;have hb:=hI.2.1;haveI:LtW eb W:=LtW.of (lt_of_heap hb);have d:=zcH hb 1;simp only[clC,hp1,Bool.false_eq_true,if_false,List.getElem?_toArray,List.getElem?_cons_zero,List.getElem?_cons_succ] at d;go_simp;refine hK _ _ trivial (by simpa [updB,upd] using hI) (fun W2 h2=>?_);rfl
  refine ObsG.cons (fun ρ L W hR hI hL hD hO hF K hK=>?_) ?_
  ·skip
   have f4:=allF_get hF (j:=4) (by decide);have hps:L 9=false:=hD.not (p:=9) rfl (by decide) hL;clear hF hO;simp only[Act.put,zsA,zsB,zsC] at hK ⊢;have e4:ρ 4=.slice B n d:=f4;rw[e4] at hK ⊢;refine step_callF3 (o:=⟨some 8,_,_,_,_,_⟩) rfl 81 #[.slice B n d] _ (HCB.out W hI.1) ?_ ?_
   ·go_simp
   rintro e W2 ⟨v,rfl,hown,hu⟩;obtain⟨hi1,hi2,hi3,hi4⟩:=hI
   refine⟨v,rfl,hK _ _ trivial ⟨gb_und hi1 hu,?_,?_,?_⟩ (fun W4 h4=>by
    obtain⟨A',c',e,_⟩:=own_slice hown
    exact⟨A',c',e⟩)⟩
   ·have h9:=(hu.below.block eb (lt_of_heap hi2)).trans hi2
    simpa [updB,upd,hps] using h9
   ·intro h
    simpa [upd] using own_und hu (hi3 (by simpa [updB] using h))
   ·intro _
    simpa [upd] using own_low hown hi1.size
  refine ObsG.cons (fun ρ L W hR hI hL hD hO hF K hK=>?_) ?_
  ·skip
   clear hF hO;simp only[Act.put,zsA,zsB,zsC] at hK ⊢;go_simp;refine hK _ _ trivial (by simpa [updB,upd] using hI) (fun W2 h2=>?_);rfl
  refine ObsG.cons (fun ρ L W hR hI hL hD hO hF K hK=>?_) ?_
  ·skip
   have f6:=allF_get hF (j:=6) (by decide);have f2:=allF_get hF (j:=2) (by decide);clear hF hO;simp only[Act.put,zsA,zsB,zsC] at hK ⊢;have e6:ρ 6=.pointer (some ⟨eb,0,none⟩):=f6;rw[e6] at hK ⊢;obtain⟨A2,c2,e2⟩:=f2;rw[e2] at hK ⊢;obtain⟨hi1,hi2,hi3,hi4⟩:=hI;haveI:LtW eb W:=LtW.of (lt_of_heap hi2);have fz:W.frozen? ⟨eb,0,none⟩=false:=zfH hi2 0;have gz:=zcH hi2 0;simp only[clC,hL,Bool.false_eq_true,if_false,List.getElem?_toArray,List.getElem?_cons_zero,List.getElem?_cons_succ] at gz;go_simp;have hne:∀ v,W.ownsRow W3.heap.size 66 3 (v) n (cellsIt f)->v.ownBlock ≠ some eb:=fun v h=>own_ne h hi2 (by decide)
   refine hK undef _ trivial ⟨gb_setCell hi1 ⟨eb,0,none⟩ _ (.inl rfl),?_,fun h=>?_,fun h=>?_⟩ (fun _ _=>trivial)
   ·have h9:=heap_setCell_same W eb 0 _ _ (.slice A2 n c2) hi2
    rw[hL] at h9;simpa [updB,upd,clC,e2] using h9
   ·have h9:=hi3 (by simpa [updB] using h)
    simpa [upd] using own_set h9 (hne _ h9)
   ·have h9:=hi4 (by simpa [updB] using h)
    simpa [upd] using own_set h9 (hne _ h9)
  refine ObsG.cons (fun ρ L W hR hI hL hD hO hF K hK=>?_) ?_
  ·skip
   clear hF hO;simp only[Act.put,zsA,zsB,zsC] at hK ⊢;go_simp;refine hK _ _ trivial (by simpa [updB,upd] using hI) (fun W2 h2=>?_);rfl
  refine ObsG.cons (fun ρ L W hR hI hL hD hO hF K hK=>?_) ?_
  ·skip
   have f8:=allF_get hF (j:=8) (by decide);have f5:=allF_get hF (j:=5) (by decide);clear hF hO;simp only[Act.put,zsA,zsB,zsC] at hK ⊢;have e8:ρ 8=.pointer (some ⟨eb,1,none⟩):=f8;rw[e8] at hK ⊢;obtain⟨A5,c5,e5⟩:=f5;rw[e5] at hK ⊢;obtain⟨hi1,hi2,hi3,hi4⟩:=hI;haveI:LtW eb W:=LtW.of (lt_of_heap hi2);have fz:W.frozen? ⟨eb,1,none⟩=false:=zfH hi2 1;have gz:=zcH hi2 1;simp only[clC,hL,Bool.false_eq_true,if_false,List.getElem?_toArray,List.getElem?_cons_zero,List.getElem?_cons_succ] at gz;go_simp;have hne:∀ v,W.ownsRow W3.heap.size 66 3 (v) n (cellsIt f)->v.ownBlock ≠ some eb:=fun v h=>own_ne h hi2 (by decide)
   refine hK undef _ trivial ⟨gb_setCell hi1 ⟨eb,1,none⟩ _ (.inl rfl),?_,fun h=>?_,fun h=>?_⟩ (fun _ _=>trivial)
   ·have h9:=heap_setCell_same W eb 1 _ _ (.slice A5 n c5) hi2
    rw[hL] at h9;simpa [updB,upd,clC,e5] using h9
   ·have h9:=hi3 (by simpa [updB] using h)
    simpa [upd] using own_set h9 (hne _ h9)
   ·have h9:=hi4 (by simpa [updB] using h)
    simpa [upd] using own_set h9 (hne _ h9)
  exact ObsG.nil
 case hend=>
  intro ρ L W hR hI hL hF;have h2:L 2=true:=hL 2 (by decide);have h5:L 5=true:=hL 5 (by decide);have h7:L 7=true:=hL 7 (by decide);have h9:L 9=true:=hL 9 (by decide);obtain⟨hu,hb,ho2,ho5⟩:=hI;rw[if_pos h7,if_pos h9] at hb;have o2:=ho2 h2;have o5:=ho5 h5;obtain⟨A2,c2,e2,k2,m2⟩:=own_slice o2;obtain⟨A5,c5,e5,k5,m5⟩:=own_slice o5;rw[e2] at hb o2;rw[e5] at hb o5;have HB9:=hid hb;have HR9:=hid ((hu.block rb (lt_of_heap HRB.out) (by simpa using HNE.out)).trans HRB.out);have HO2:=hid o2;have HO5:=hid o5;have HU9:=hid (show Und w W from HU3.out.grown hu (fun g e=>by cases e;exact HEBL.out));have HK:=hid (And.intro k2 (And.intro m2 (And.intro k5 m5)));clear ho2 ho5 h2 h5 h7 h9 hR hL hF hu o2 o5 e2 e5 k2 m2 k5 m5;have e0:=zcH hb 0;have e1:=zcH hb 1;have e2:=zcH hb 2;have e3:=zcH hb 3;have e4:=zcH hb 4;have e5:=zcH hb 5;have e6:=zcH hb 6;have e7:=zcH hb 7;have hr:=HR9.out;have z0:=zcH hr 0;have fz0:=zfH hr 0;have z1:=zcH hr 1;have fz1:=zfH hr 1;have z2:=zcH hr 2;have fz2:=zfH hr 2;have z3:=zcH hr 3;have fz3:=zfH hr 3;have z4:=zcH hr 4;have fz4:=zfH hr 4;have z5:=zcH hr 5;have fz5:=zfH hr 5;have z6:=zcH hr 6;have fz6:=zfH hr 6;have z7:=zcH hr 7;have fz7:=zfH hr 7;simp only[clC,List.getElem?_toArray,List.getElem?_cons_zero,List.getElem?_cons_succ] at e0 e1 e2 e3 e4 e5 e6 e7 z0 z1 z2 z3 z4 z5 z6 z7;haveI:LtW eb W:=LtW.of (lt_of_heap hb);haveI:LtW rb W:=LtW.of (lt_of_heap hr);have hne2:=own_ne HO2.out hr (by decide);have hne5:=own_ne HO5.out hr (by decide);have HF1:=hid (heap_setCell_same _ rb 7 _ _ (.int .i64 1) (heap_setCell_same _ rb 6 _ _ (.int .i64 0) (heap_setCell_same _ rb 5 _ _ (.string ⟨#[]⟩) (heap_setCell_same _ rb 4 _ _ (.string ⟨#[]⟩) (heap_setCell_same _ rb 3 _ _ (.string ⟨#[]⟩) (heap_setCell_same _ rb 2 _ _ (.string ⟨#[]⟩) (heap_setCell_same _ rb 1 _ _ (.slice A5 n c5) (heap_setCell_same _ rb 0 _ _ (.slice A2 n c2) hr))))))));have HF2:=hid (RowAt.set_und (RowAt.set_und (RowAt.set_und (RowAt.set_und (RowAt.set_und (RowAt.set_und (RowAt.set_und (RowAt.set_und HU9.out HRBL.out 0 (.slice A2 n c2)) HRBL.out 1 (.slice A5 n c5)) HRBL.out 2 (.string ⟨#[]⟩)) HRBL.out 3 (.string ⟨#[]⟩)) HRBL.out 4 (.string ⟨#[]⟩)) HRBL.out 5 (.string ⟨#[]⟩)) HRBL.out 6 (.int .i64 0)) HRBL.out 7 (.int .i64 1));have HF3:=hid (show (((((((((W).setCell ⟨rb,0,none⟩ (.slice A2 n c2)).setCell ⟨rb,1,none⟩ (.slice A5 n c5)).setCell ⟨rb,2,none⟩ (.string ⟨#[]⟩)).setCell ⟨rb,3,none⟩ (.string ⟨#[]⟩)).setCell ⟨rb,4,none⟩ (.string ⟨#[]⟩)).setCell ⟨rb,5,none⟩ (.string ⟨#[]⟩)).setCell ⟨rb,6,none⟩ (.int .i64 0)).setCell ⟨rb,7,none⟩ (.int .i64 1)).ownsRow W3.heap.size 66 3 (.slice A2 n c2) n (cellsIt f) from(own_set (own_set (own_set (own_set (own_set (own_set (own_set (own_set HO2.out hne2) hne2) hne2) hne2) hne2) hne2) hne2) hne2));have HF4:=hid (show (((((((((W).setCell ⟨rb,0,none⟩ (.slice A2 n c2)).setCell ⟨rb,1,none⟩ (.slice A5 n c5)).setCell ⟨rb,2,none⟩ (.string ⟨#[]⟩)).setCell ⟨rb,3,none⟩ (.string ⟨#[]⟩)).setCell ⟨rb,4,none⟩ (.string ⟨#[]⟩)).setCell ⟨rb,5,none⟩ (.string ⟨#[]⟩)).setCell ⟨rb,6,none⟩ (.int .i64 0)).setCell ⟨rb,7,none⟩ (.int .i64 1)).ownsRow W3.heap.size 66 3 (.slice A5 n c5) n (cellsIt f) from(own_set (own_set (own_set (own_set (own_set (own_set (own_set (own_set HO5.out hne5) hne5) hne5) hne5) hne5) hne5) hne5) hne5));clear hb hr hne2 hne5;go_wp2;have hr8:=HF1.out;have hu8:=HF2.out;have o28:=HF3.out;have o58:=HF4.out;generalize ((((((((W).setCell ⟨rb,0,none⟩ (.slice A2 n c2)).setCell ⟨rb,1,none⟩ (.slice A5 n c5)).setCell ⟨rb,2,none⟩ (.string ⟨#[]⟩)).setCell ⟨rb,3,none⟩ (.string ⟨#[]⟩)).setCell ⟨rb,4,none⟩ (.string ⟨#[]⟩)).setCell ⟨rb,5,none⟩ (.string ⟨#[]⟩)).setCell ⟨rb,6,none⟩ (.int .i64 0)).setCell ⟨rb,7,none⟩ (.int .i64 1)=WF at hr8 hu8 o28 o58 ⊢;simp only[zsA,zsB,zsC] at hr8;clear HF1 HF2 HF3 HF4;obtain⟨k2,m2,k5,m5⟩:=HK.out;exact bodyPost_ret (results_cell_row rfl _ _ rb _ _ _ _ rfl hr8 Tryz.underlying36 rfl (by kernel_rfl)) rfl ⟨A2,A5,c2,c5,rfl,k2,m2,k5,m5,own_low o28 HU3.out.size,own_low o58 HU3.out.size,hu8⟩
end Go.Proofs.YtcfhfdphoidaeaaGreatDoor
