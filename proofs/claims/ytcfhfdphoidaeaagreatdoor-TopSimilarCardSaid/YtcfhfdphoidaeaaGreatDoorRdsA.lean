/- The contract of markup's tag: what it gives is St.tagL. -/
import Derived.Test.YtcfhfdphoidaeaaGreatDoorMkNm
import Derived.BigRegion
import Derived.Test.YtcfhfdphoidaeaaGreatDoorFct
import Derived.Test.YtcfhfdphoidaeaaGreatDoorGD
import Derived.Lib.IndexLaws
import Derived.Deep.RegionLaw
import Derived.Outline
import Derived.WalkSmall
import Derived.Test.YtcfhfdphoidaeaaGreatDoorPart
set_option linter.unusedVariables false
set_option linter.unusedSimpArgs false
set_option maxHeartbeats 12800000
set_option maxRecDepth 20000
namespace Go.Proofs.YtcfhfdphoidaeaaGreatDoor
open Go.RowKit
namespace St
theorem index_gt:∀ l:List UInt8,Lib.indexByte l 62=if (l.takeWhile (fun c=>decide (c.toNat ≠ 62))).length<l.length then ((l.takeWhile (fun c=>decide (c.toNat ≠ 62))).length:Int) else -1
 | []=>rfl
 | c :: l=>by
  unfold Lib.indexByte
  by_cases h:c.toNat=62
  ·have h2:c=62:=by apply UInt8.toNat_inj.1;simpa using h
   subst h2;simp
  ·have h2:¬ c=62:=fun e=>h (by rw[e];rfl)
   have h3:(c==62)=false:=by simpa using h2
   rw[h3,index_gt l,List.takeWhile_cons_of_pos (by simpa using h),List.length_cons];simp only[List.length_cons,Bool.false_eq_true,if_false]
   by_cases h4:(l.takeWhile (fun c=>decide (c.toNat ≠ 62))).length<l.length
   ·rw[if_pos h4,if_neg (by simp <;> omega),if_pos (by omega)];try simp
   ·rw[if_neg h4,if_pos (by simp),if_neg (by omega)]
theorem tag_none1{l:List UInt8}(h:¬ (innerL l).length+1<l.length):tagL l=none:=by unfold tagL;rw[if_neg h]
theorem tag_some1{l:List UInt8}(h:(innerL l).length+1<l.length):tagL l=(tagI (innerL l)).map fun x=>(x.1,x.2,(innerL l).length+2):=by unfold tagL;rw[if_pos h]
theorem pre47(l:List UInt8):([47]:List UInt8).isPrefixOf l=decide (l.head?=some 47):=by
 cases l with
 | nil=>rfl
 | cons c r=>
  simp[List.isPrefixOf];rw[Bool.eq_iff_iff,beq_iff_eq,decide_eq_true_iff];exact eq_comm
end St
def TagEnd(R:St.El)(w:World)(e:Ending)(w':World):Prop:=Und w w'/\match R with
 | some (k,t,n)=>e=.returned (.tuple #[.agg #[.int .i64 k,.string ⟨t.toArray⟩,.int .i64 0],.int .i64 n,.bool true])
 | none=>∃ (k:Int) (x:ByteArray) (m:Int),e=.returned (.tuple #[.agg #[.int .i64 k,.string x,.int .i64 0],.int .i64 m,.bool false])
theorem tagEnd_some{R:St.El}{w w':World}{k:Int}{t:List UInt8}{n:Nat}{x:ByteArray}{m:Int}(hR:R=some (k,t,n))(hx:x.data.toList=t)(hm:m=n)(hu:Und w w'):TagEnd R w (.returned (.tuple #[.agg #[.int .i64 k,.string x,.int .i64 0],.int .i64 m,.bool true])) w':=by
 subst hm hx hR;exact⟨hu,by simp only[ba_eta]⟩
theorem tagEnd_none{R:St.El}{w w':World}{k:Int}{x:ByteArray}{m:Int}(hR:R=none)(hu:Und w w'):TagEnd R w (.returned (.tuple #[.agg #[.int .i64 k,.string x,.int .i64 0],.int .i64 m,.bool false])) w':=by
 subst hR;exact⟨hu,_,_,_,rfl⟩
theorem mtag_any(s:ByteArray)(w:World)(hs:s.size<=4611686018427387904)(h0:0<s.size)(h60:s[0].toNat=60) :
  Calls Tryz.prog 209 #[.string s] w (TagEnd (St.tagL s.data.toList) w):=by
 have hcr:s.data.toList=s[0] :: s.data.toList.drop 1:=St.list_zero s h0;have hlen:=St.len_list s
 have htw:s.data.toList.takeWhile (fun c=>decide (c.toNat ≠ 62))=s[0] :: St.innerL s.data.toList:=by
  conv=>lhs;rw[hcr]
  rw[List.takeWhile_cons_of_pos (by simp[h60])];rfl
 have hix:=fun W=>Tryz.strings_IndexByte s 62 W
 have h62:(62:Int).toNat.toUInt8=62:=rfl;rw[h62,St.index_gt,htw,List.length_cons] at hix;have hpre:St.innerL s.data.toList=(s.data.toList.drop 1).take (St.innerL s.data.toList).length:=List.prefix_iff_eq_take.1 (List.takeWhile_prefix _)
 by_cases hlt:(St.innerL s.data.toList).length+1<s.data.toList.length
 rotate_left 1
 ·have hR:=hid (St.tag_none1 hlt)
  rw[if_neg hlt] at hix;have HIX:=hid hix;clear hix hlt hpre htw hcr hlen h62;go_enter Tryz.func209,Tryz.ntmps209;go_wp2_with fail;refine(HIX.out _).mono ?_;rintro e w' ⟨rfl,rfl⟩;go_wp2;refine bodyPost_ret (v:=.tuple #[.agg #[.int .i64 0,.string ⟨#[]⟩,.int .i64 0],.int .i64 0,.bool false]) (by simp[results,Tryz.results209,go_sem]) rfl ?_;exact tagEnd_none hR.out (by apply_rules[uUe,uUa,uUb,uUc,uUd])
 ·have hT:=St.tag_some1 hlt
  rw[if_pos hlt] at hix;rw[hlen] at hlt;obtain⟨m,hm⟩:∃ m,(St.innerL s.data.toList).length=m:=⟨_,rfl⟩;obtain⟨x,hX⟩:∃ x,s.extract 1 (m+1)=x:=⟨_,rfl⟩;have hxl:x.data.toList=St.innerL s.data.toList:=by rw[hpre,hm,<- hX,Lib.extract_data];simp
  rw[hm] at hT hix hlt;rw[<- hxl] at hT;have hxs:x.size=m:=by rw[<- St.len_list,hxl,hm]
  have hxa:x.size<=m:=by omega
  have hxb:m<=x.size:=by omega
  have hmw:IntKind.i64.wrap ((m:Int)+1+1)=(m:Int)+1+1:=IntWalk.i64_in _ (by omega);clear hpre htw hcr hlen h62 hxl hm hxs;have z1:(1:Int)<=(m:Int)+1:=by omega
  have z2:(m:Int)+1<=(s.size:Int):=by omega
  have z3:¬ (m:Int)+1<1:=by omega
  have hcast:(((m+1:Nat):Int))=(m:Int)+1:=by omega
  rw[hcast] at hix;have HIX:=hid hix;have hp:=fun W=>hasPre_any x ⟨#[47]⟩ W (by omega) (by show 1<=_;omega)
  have hpe:preB ⟨#[47]⟩ x=decide (x.data.toList.head?=some 47):=St.pre47 _;rw[hpe] at hp;have hsf:=fun W=>hasSuf_any x W (by omega)
  unfold slashB at hsf;clear hix hpe hcast
  by_cases b1:x.data.toList.head?=some 47
  ·have hx1:1<=x.size:=by
    rw[<- St.len_list];cases hq:x.data.toList with
    | nil=>rw[hq] at b1;cases b1
    | cons c r=>simp
   obtain⟨y,hY⟩:∃ y,x.extract 1 x.size=y:=⟨_,rfl⟩;have hyl:y.data.toList=x.data.toList.drop 1:=by rw[<- hY,Lib.extract_data,List.take_of_length_le (by simp)]
   have hys:y.size<=x.size:=by rw[<- hY];simp
   have hI:St.tagI x.data.toList=if St.isNameL y.data.toList then some (3,y.data.toList) else none:=by
    unfold St.tagI;rw[if_pos b1,hyl]
   rw[hI] at hT;have hnm:=fun W=>isname_any y W (by omega)
   rw[decide_eq_true b1] at hp;have HP:=hid hp;have y1:(1:Int)<=(x.size:Int):=by omega
   have y2:1<=x.size:=hx1;clear hp hsf hI b1 hyl
   generalize St.isNameL y.data.toList=vb at hT hnm;have HT:=hid hT;have HNM:=hid hnm;clear hT hnm;go_enter Tryz.func209,Tryz.ntmps209;go_wp2_with fail;refine(HIX.out _).mono ?_;rintro e w' ⟨rfl,rfl⟩;go_wp2_with fail;refine(HP.out _).mono ?_;rintro e w' ⟨rfl,rfl⟩;go_wp2_with fail;go_region;go_wp2_with fail;refine wp_region_facts (fun _ _=>True) (fun L W=>Und w W/\W.heap[w.heap.size+1]?=some (Obj.cells #[.int .i64 3,.string y,.int .i64 0] 66 (0,0))/\W.heap[w.heap.size]?=some (Obj.cells #[if L 6=true then .int .i64 3 else .int .i64 0,if L 6=true then .string y else .string ⟨#[]⟩,.int .i64 0] 66 (0,0))) ([fun v _=>v=.agg #[.int .i64 3,.string y,.int .i64 0],fun v _=>v=.int .i64 ((m:Int)+1),fun v _=>v=.int .i64 ((m:Int)+1+1),fun v _=>v=.pointer (some ⟨w.heap.size+1,1,none⟩),fun v _=>v=.string y,fun v _=>v=.bool vb,fun _ _=>True,fun v _=>v=.int .i64 ((m:Int)+1+1),fun v _=>v=.bool vb]) (fun _=>trivial) (fun _ _ _ _ _=>trivial) (by kernel_rfl) (by rfl) (by kernel_rfl) (by kernel_rfl) ?_ ?_ ?_ ?_ ?_;rotate_left 1
   ·skip
    intro ρ;simp only[putAll,Act.put,zsA,zsB,zsC,Nat.zero_add,Nat.reduceAdd];exact rfl
   ·skip
    exact⟨(by apply_rules[uUe,uUa,uUb,uUc,uUd]),heap_alloc_at _ _ _ (by simp),(heap_alloc_lt _ _ _ (by simp)).trans (heap_alloc_at _ _ _ rfl)⟩
   ·skip
    refine ObsF.cons (fun ρ L W hR hI hL hD hO hF K hK=>?_) ?_
    ·skip
     clear hF hD hO hR;simp only[Act.put,zsA,zsB,zsC] at hK ⊢;have c0:W.cell? ⟨w.heap.size+1,0,none⟩=_:=zcH hI.2.1 0;have c1:W.cell? ⟨w.heap.size+1,1,none⟩=_:=zcH hI.2.1 1;have c2:W.cell? ⟨w.heap.size+1,2,none⟩=_:=zcH hI.2.1 2;go_simp;refine hK _ _ trivial (by simpa [updB] using hI) (fun _ _=>rfl)
    refine ObsF.cons (fun ρ L W hR hI hL hD hO hF K hK=>?_) ?_
    ·skip
     clear hF hD hO hR;simp only[Act.put,zsA,zsB,zsC] at hK ⊢;go_simp;refine hK _ _ trivial (by simpa [updB] using hI) (fun _ _=>rfl)
    refine ObsF.cons (fun ρ L W hR hI hL hD hO hF K hK=>?_) ?_
    ·skip
     have f1:=allF_get hF (j:=1) (by decide);clear hF hD hO hR;simp only[Act.put,zsA,zsB,zsC] at hK ⊢;have e1:ρ 1=.int .i64 ((m:Int)+1):=f1;rw[e1] at hK ⊢;go_simp;refine hK _ _ trivial (by simpa [updB] using hI) (fun _ _=>rfl)
    refine ObsF.cons (fun ρ L W hR hI hL hD hO hF K hK=>?_) ?_
    ·skip
     clear hF hD hO hR;simp only[Act.put,zsA,zsB,zsC] at hK ⊢;go_simp;refine hK _ _ trivial (by simpa [updB] using hI) (fun _ _=>rfl)
    refine ObsF.cons (fun ρ L W hR hI hL hD hO hF K hK=>?_) ?_
    ·skip
     have f3:=allF_get hF (j:=3) (by decide);clear hF hD hO hR;simp only[Act.put,zsA,zsB,zsC] at hK ⊢;have e3:ρ 3=.pointer (some ⟨w.heap.size+1,1,none⟩):=f3;rw[e3] at hK ⊢;have c1:W.cell? ⟨w.heap.size+1,1,none⟩=_:=zcH hI.2.1 1;go_simp;refine hK _ _ trivial (by simpa [updB] using hI) (fun _ _=>rfl)
    refine ObsF.cons (fun ρ L W hR hI hL hD hO hF K hK=>?_) ?_
    ·skip
     have f4:=allF_get hF (j:=4) (by decide);clear hF hD hO hR;simp only[Act.put,zsA,zsB,zsC] at hK ⊢;have e4:ρ 4=.string y:=f4;rw[e4] at hK ⊢;go_simp;go_at_call 76;refine(HNM.out _).mono ?_;rintro e W2 ⟨rfl,rfl⟩;exact hK _ _ trivial (by simpa [updB] using hI) (fun _ _=>rfl)
    refine ObsF.cons (fun ρ L W hR hI hL hD hO hF K hK=>?_) ?_
    ·skip
     have f0:=allF_get hF (j:=0) (by decide);clear hF hD hO hR;simp only[Act.put] at hK ⊢;have e0:ρ 0=.agg #[.int .i64 3,.string y,.int .i64 0]:=f0;rw[e0] at hK ⊢;have hlt:=lt_of_heap hI.2.2;haveI:LtW w.heap.size W:=LtW.of hlt;have hbb:W.heap[w.heap.size]?=some (Obj.cells #[if L 6=true then .int .i64 3 else .int .i64 0,if L 6=true then .string y else .string ⟨#[]⟩,.int .i64 0] 66 (0,0)):=hI.2.2;rw[hL] at hbb;have c0:W.cell? ⟨w.heap.size,0,none⟩=_:=zcH hbb 0;have c1:W.cell? ⟨w.heap.size,1,none⟩=_:=zcH hbb 1;have c2:W.cell? ⟨w.heap.size,2,none⟩=_:=zcH hbb 2;have p0:=zfH hbb 0;have p1:=zfH hbb 1;have p2:=zfH hbb 2;go_simp;refine hK undef _ trivial ⟨((hI.1.setCell (p:=⟨w.heap.size,0,none⟩) (Nat.le_refl _) _).setCell (p:=⟨w.heap.size,1,none⟩) (Nat.le_refl _) _).setCell (p:=⟨w.heap.size,2,none⟩) (Nat.le_refl _) _,?_,?_⟩ (fun _ _=>trivial)
     ·rw[heap_setCell_other _ _ _ _ (by simp),heap_setCell_other _ _ _ _ (by simp),heap_setCell_other _ _ _ _ (by simp)];exact hI.2.1
     ·simp only[updB,if_true]
      exact heap_setCell_same _ _ 2 _ _ _ (heap_setCell_same _ _ 1 _ _ _ (heap_setCell_same _ _ 0 _ _ _ hbb))
    refine ObsF.cons (fun ρ L W hR hI hL hD hO hF K hK=>?_) ?_
    ·skip
     have f2:=allF_get hF (j:=2) (by decide);clear hF hD hO hR;simp only[Act.put,zsA,zsB,zsC] at hK ⊢;have e2:ρ 2=.int .i64 ((m:Int)+1+1):=f2;rw[e2] at hK ⊢;go_simp;refine hK _ _ trivial (by simpa [updB] using hI) (fun _ _=>rfl)
    refine ObsF.cons (fun ρ L W hR hI hL hD hO hF K hK=>?_) ?_
    ·skip
     have f5:=allF_get hF (j:=5) (by decide);clear hF hD hO hR;simp only[Act.put,zsA,zsB,zsC] at hK ⊢;have e5:ρ 5=.bool vb:=f5;rw[e5] at hK ⊢;go_simp;refine hK _ _ trivial (by simpa [updB] using hI) (fun _ _=>rfl)
    exact ObsF.nil
   ·skip
    intro ρ L W hR hI hL hF;obtain⟨_,_,_,_,_,_,_,g7,g8,_⟩:=hF;have g7:ρ 7=.int .i64 ((m:Int)+1+1):=g7;have g8:ρ 8=.bool vb:=g8;rw[g7,g8];clear g7 g8 hR;have hbb:=hI.2.2;rw[hL 6 (by decide)] at hbb;simp only[if_true] at hbb;have c0:W.cell? ⟨w.heap.size,0,none⟩=_:=zcH hbb 0;have c1:W.cell? ⟨w.heap.size,1,none⟩=_:=zcH hbb 1;have c2:W.cell? ⟨w.heap.size,2,none⟩=_:=zcH hbb 2;have HU:=hid hI.1;clear hI hL hbb;go_wp2;refine bodyPost_ret (v:=.tuple #[.agg #[.int .i64 3,.string y,.int .i64 0],.int .i64 ((m:Int)+1+1),.bool vb]) (by simp[results,Tryz.results209,go_sem,c0,c1,c2]) rfl ?_;cases vb
    ·exact tagEnd_none HT.out HU.out
    ·exact tagEnd_some HT.out rfl (by omega) HU.out
  ·rw[decide_eq_false b1] at hp
   have HP:=hid hp
   by_cases b2:x.data.toList.getLast?=some 47
   ·have hx1:1<=x.size:=by
     rw[<- St.len_list];cases hq:x.data.toList with
     | nil=>rw[hq] at b2;cases b2
     | cons c r=>simp
    obtain⟨y,hY⟩:∃ y,x.extract 0 (x.size-1)=y:=⟨_,rfl⟩;have hyl:y.data.toList=x.data.toList.dropLast:=by rw[<- hY,Lib.extract_data,List.dropLast_eq_take,St.len_list];simp
    have hys:y.size<=x.size:=by rw[<- hY];simp
    have hI:St.tagI x.data.toList=if St.isContentL y.data.toList then some (4,y.data.toList) else none:=by
     unfold St.tagI;rw[if_neg b1,if_pos b2,hyl]
    rw[hI] at hT;have hnm:=fun W=>icontent_any y W (by omega)
    rw[decide_eq_true b2] at hsf;have HSF:=hid hsf;have y1:(x.size:Int)-1=((x.size-1:Nat):Int):=by omega
    have y2:(1:Int)<=(x.size:Int):=by omega
    have y3:(0:Int)<=(x.size:Int)-1:=by omega
    clear hp hsf hI b1 b2 hyl
    generalize St.isContentL y.data.toList=vb at hT hnm;have HT:=hid hT;have HNM:=hid hnm;clear hT hnm;go_enter Tryz.func209,Tryz.ntmps209;go_wp2_with fail;refine(HIX.out _).mono ?_;rintro e w' ⟨rfl,rfl⟩;go_wp2_with fail;refine(HP.out _).mono ?_;rintro e w' ⟨rfl,rfl⟩;go_wp2_with fail;refine(HSF.out _).mono ?_;rintro e w' ⟨rfl,rfl⟩;go_wp2_with fail;go_region;go_wp2_with fail;refine wp_region_facts (fun _ _=>True) (fun L W=>Und w W/\W.heap[w.heap.size+1]?=some (Obj.cells #[.int .i64 4,.string y,.int .i64 0] 66 (0,0))/\W.heap[w.heap.size]?=some (Obj.cells #[if L 6=true then .int .i64 4 else .int .i64 0,if L 6=true then .string y else .string ⟨#[]⟩,.int .i64 0] 66 (0,0))) ([fun v _=>v=.agg #[.int .i64 4,.string y,.int .i64 0],fun v _=>v=.int .i64 ((m:Int)+1),fun v _=>v=.int .i64 ((m:Int)+1+1),fun v _=>v=.pointer (some ⟨w.heap.size+1,1,none⟩),fun v _=>v=.string y,fun v _=>v=.bool vb,fun _ _=>True,fun v _=>v=.int .i64 ((m:Int)+1+1),fun v _=>v=.bool vb]) (fun _=>trivial) (fun _ _ _ _ _=>trivial) (by kernel_rfl) (by rfl) (by kernel_rfl) (by kernel_rfl) ?_ ?_ ?_ ?_ ?_;rotate_left 1
    ·skip
     intro ρ;simp only[putAll,Act.put,zsA,zsB,zsC,Nat.zero_add,Nat.reduceAdd];exact rfl
    ·skip
     exact⟨(by apply_rules[uUe,uUa,uUb,uUc,uUd]),heap_alloc_at _ _ _ (by simp),(heap_alloc_lt _ _ _ (by simp)).trans (heap_alloc_at _ _ _ rfl)⟩
    ·skip
     refine ObsF.cons (fun ρ L W hR hI hL hD hO hF K hK=>?_) ?_
     ·skip
      clear hF hD hO hR;simp only[Act.put,zsA,zsB,zsC] at hK ⊢;have c0:W.cell? ⟨w.heap.size+1,0,none⟩=_:=zcH hI.2.1 0;have c1:W.cell? ⟨w.heap.size+1,1,none⟩=_:=zcH hI.2.1 1;have c2:W.cell? ⟨w.heap.size+1,2,none⟩=_:=zcH hI.2.1 2;go_simp;refine hK _ _ trivial (by simpa [updB] using hI) (fun _ _=>rfl)
     refine ObsF.cons (fun ρ L W hR hI hL hD hO hF K hK=>?_) ?_
     ·skip
      clear hF hD hO hR;simp only[Act.put,zsA,zsB,zsC] at hK ⊢;go_simp;refine hK _ _ trivial (by simpa [updB] using hI) (fun _ _=>rfl)
     refine ObsF.cons (fun ρ L W hR hI hL hD hO hF K hK=>?_) ?_
     ·skip
      have f1:=allF_get hF (j:=1) (by decide);clear hF hD hO hR;simp only[Act.put,zsA,zsB,zsC] at hK ⊢;have e1:ρ 1=.int .i64 ((m:Int)+1):=f1;rw[e1] at hK ⊢;go_simp;refine hK _ _ trivial (by simpa [updB] using hI) (fun _ _=>rfl)
     refine ObsF.cons (fun ρ L W hR hI hL hD hO hF K hK=>?_) ?_
     ·skip
      clear hF hD hO hR;simp only[Act.put,zsA,zsB,zsC] at hK ⊢;go_simp;refine hK _ _ trivial (by simpa [updB] using hI) (fun _ _=>rfl)
     refine ObsF.cons (fun ρ L W hR hI hL hD hO hF K hK=>?_) ?_
     ·skip
      have f3:=allF_get hF (j:=3) (by decide);clear hF hD hO hR;simp only[Act.put,zsA,zsB,zsC] at hK ⊢;have e3:ρ 3=.pointer (some ⟨w.heap.size+1,1,none⟩):=f3;rw[e3] at hK ⊢;have c1:W.cell? ⟨w.heap.size+1,1,none⟩=_:=zcH hI.2.1 1;go_simp;refine hK _ _ trivial (by simpa [updB] using hI) (fun _ _=>rfl)
     refine ObsF.cons (fun ρ L W hR hI hL hD hO hF K hK=>?_) ?_
     ·skip
      have f4:=allF_get hF (j:=4) (by decide);clear hF hD hO hR;simp only[Act.put,zsA,zsB,zsC] at hK ⊢;have e4:ρ 4=.string y:=f4;rw[e4] at hK ⊢;go_simp;go_at_call 152;refine(HNM.out _).mono ?_;rintro e W2 ⟨rfl,hu⟩;refine hK _ _ trivial ⟨hI.1.trans hu,(hu.below.block _ (lt_of_heap hI.2.1)).trans hI.2.1,?_⟩ (fun _ _=>rfl);simp only[updB,Nat.reduceEqDiff,if_false];exact(hu.below.block _ (lt_of_heap hI.2.2)).trans hI.2.2
     refine ObsF.cons (fun ρ L W hR hI hL hD hO hF K hK=>?_) ?_
     ·skip
      have f0:=allF_get hF (j:=0) (by decide);clear hF hD hO hR;simp only[Act.put] at hK ⊢;have e0:ρ 0=.agg #[.int .i64 4,.string y,.int .i64 0]:=f0;rw[e0] at hK ⊢;have hlt:=lt_of_heap hI.2.2;haveI:LtW w.heap.size W:=LtW.of hlt;have hbb:W.heap[w.heap.size]?=some (Obj.cells #[if L 6=true then .int .i64 4 else .int .i64 0,if L 6=true then .string y else .string ⟨#[]⟩,.int .i64 0] 66 (0,0)):=hI.2.2;rw[hL] at hbb;have c0:W.cell? ⟨w.heap.size,0,none⟩=_:=zcH hbb 0;have c1:W.cell? ⟨w.heap.size,1,none⟩=_:=zcH hbb 1;have c2:W.cell? ⟨w.heap.size,2,none⟩=_:=zcH hbb 2;have p0:=zfH hbb 0;have p1:=zfH hbb 1;have p2:=zfH hbb 2;go_simp;refine hK undef _ trivial ⟨((hI.1.setCell (p:=⟨w.heap.size,0,none⟩) (Nat.le_refl _) _).setCell (p:=⟨w.heap.size,1,none⟩) (Nat.le_refl _) _).setCell (p:=⟨w.heap.size,2,none⟩) (Nat.le_refl _) _,?_,?_⟩ (fun _ _=>trivial)
      ·rw[heap_setCell_other _ _ _ _ (by simp),heap_setCell_other _ _ _ _ (by simp),heap_setCell_other _ _ _ _ (by simp)];exact hI.2.1
      ·simp only[updB,if_true]
       exact heap_setCell_same _ _ 2 _ _ _ (heap_setCell_same _ _ 1 _ _ _ (heap_setCell_same _ _ 0 _ _ _ hbb))
     refine ObsF.cons (fun ρ L W hR hI hL hD hO hF K hK=>?_) ?_
     ·skip
      have f2:=allF_get hF (j:=2) (by decide);clear hF hD hO hR;simp only[Act.put,zsA,zsB,zsC] at hK ⊢;have e2:ρ 2=.int .i64 ((m:Int)+1+1):=f2;rw[e2] at hK ⊢;go_simp;refine hK _ _ trivial (by simpa [updB] using hI) (fun _ _=>rfl)
     refine ObsF.cons (fun ρ L W hR hI hL hD hO hF K hK=>?_) ?_
     ·skip
      have f5:=allF_get hF (j:=5) (by decide);clear hF hD hO hR;simp only[Act.put,zsA,zsB,zsC] at hK ⊢;have e5:ρ 5=.bool vb:=f5;rw[e5] at hK ⊢;go_simp;refine hK _ _ trivial (by simpa [updB] using hI) (fun _ _=>rfl)
     exact ObsF.nil
    ·skip
     intro ρ L W hR hI hL hF;obtain⟨_,_,_,_,_,_,_,g7,g8,_⟩:=hF;have g7:ρ 7=.int .i64 ((m:Int)+1+1):=g7;have g8:ρ 8=.bool vb:=g8;rw[g7,g8];clear g7 g8 hR;have hbb:=hI.2.2;rw[hL 6 (by decide)] at hbb;simp only[if_true] at hbb;have c0:W.cell? ⟨w.heap.size,0,none⟩=_:=zcH hbb 0;have c1:W.cell? ⟨w.heap.size,1,none⟩=_:=zcH hbb 1;have c2:W.cell? ⟨w.heap.size,2,none⟩=_:=zcH hbb 2;have HU:=hid hI.1;clear hI hL hbb;go_wp2;refine bodyPost_ret (v:=.tuple #[.agg #[.int .i64 4,.string y,.int .i64 0],.int .i64 ((m:Int)+1+1),.bool vb]) (by simp[results,Tryz.results209,go_sem,c0,c1,c2]) rfl ?_;cases vb
     ·exact tagEnd_none HT.out HU.out
     ·exact tagEnd_some HT.out rfl (by omega) HU.out
   ·have hI:St.tagI x.data.toList=if St.isContentL x.data.toList then some (2,x.data.toList) else none:=by
     unfold St.tagI;rw[if_neg b1,if_neg b2]
    rw[hI] at hT;have hnm:=fun W=>icontent_any x W (by omega)
    rw[decide_eq_false b2] at hsf;have HSF:=hid hsf;clear hp hsf hI b1 b2
    generalize St.isContentL x.data.toList=vb at hT hnm;have HT:=hid hT;have HNM:=hid hnm;clear hT hnm;go_enter Tryz.func209,Tryz.ntmps209;go_wp2_with fail;refine(HIX.out _).mono ?_;rintro e w' ⟨rfl,rfl⟩;go_wp2_with fail;refine(HP.out _).mono ?_;rintro e w' ⟨rfl,rfl⟩;go_wp2_with fail;refine(HSF.out _).mono ?_;rintro e w' ⟨rfl,rfl⟩;go_wp2_with fail;refine wp_region_facts (fun _ _=>True) (fun L W=>Und w W/\W.heap[w.heap.size+1]?=some (Obj.cells #[.int .i64 2,.string x,.int .i64 0] 66 (0,0))/\W.heap[w.heap.size]?=some (Obj.cells #[if L 6=true then .int .i64 2 else .int .i64 0,if L 6=true then .string x else .string ⟨#[]⟩,.int .i64 0] 66 (0,0))) ([fun v _=>v=.agg #[.int .i64 2,.string x,.int .i64 0],fun v _=>v=.int .i64 ((m:Int)+1),fun v _=>v=.int .i64 ((m:Int)+1+1),fun v _=>v=.pointer (some ⟨w.heap.size+1,1,none⟩),fun v _=>v=.string x,fun v _=>v=.bool vb,fun _ _=>True,fun v _=>v=.int .i64 ((m:Int)+1+1),fun v _=>v=.bool vb]) (fun _=>trivial) (fun _ _ _ _ _=>trivial) (by kernel_rfl) (by rfl) (by kernel_rfl) (by kernel_rfl) ?_ ?_ ?_ ?_ ?_;rotate_left 1
    ·skip
     intro ρ;simp only[putAll,Act.put,zsA,zsB,zsC,Nat.zero_add,Nat.reduceAdd];exact rfl
    ·skip
     exact⟨(by apply_rules[uUe,uUa,uUb,uUc,uUd]),heap_alloc_at _ _ _ (by simp),(heap_alloc_lt _ _ _ (by simp)).trans (heap_alloc_at _ _ _ rfl)⟩
    ·skip
     refine ObsF.cons (fun ρ L W hR hI hL hD hO hF K hK=>?_) ?_
     ·skip
      clear hF hD hO hR;simp only[Act.put,zsA,zsB,zsC] at hK ⊢;have c0:W.cell? ⟨w.heap.size+1,0,none⟩=_:=zcH hI.2.1 0;have c1:W.cell? ⟨w.heap.size+1,1,none⟩=_:=zcH hI.2.1 1;have c2:W.cell? ⟨w.heap.size+1,2,none⟩=_:=zcH hI.2.1 2;go_simp;refine hK _ _ trivial (by simpa [updB] using hI) (fun _ _=>rfl)
     refine ObsF.cons (fun ρ L W hR hI hL hD hO hF K hK=>?_) ?_
     ·skip
      clear hF hD hO hR;simp only[Act.put,zsA,zsB,zsC] at hK ⊢;go_simp;refine hK _ _ trivial (by simpa [updB] using hI) (fun _ _=>rfl)
     refine ObsF.cons (fun ρ L W hR hI hL hD hO hF K hK=>?_) ?_
     ·skip
      have f1:=allF_get hF (j:=1) (by decide);clear hF hD hO hR;simp only[Act.put,zsA,zsB,zsC] at hK ⊢;have e1:ρ 1=.int .i64 ((m:Int)+1):=f1;rw[e1] at hK ⊢;go_simp;refine hK _ _ trivial (by simpa [updB] using hI) (fun _ _=>rfl)
     refine ObsF.cons (fun ρ L W hR hI hL hD hO hF K hK=>?_) ?_
     ·skip
      clear hF hD hO hR;simp only[Act.put,zsA,zsB,zsC] at hK ⊢;go_simp;refine hK _ _ trivial (by simpa [updB] using hI) (fun _ _=>rfl)
     refine ObsF.cons (fun ρ L W hR hI hL hD hO hF K hK=>?_) ?_
     ·skip
      have f3:=allF_get hF (j:=3) (by decide);clear hF hD hO hR;simp only[Act.put,zsA,zsB,zsC] at hK ⊢;have e3:ρ 3=.pointer (some ⟨w.heap.size+1,1,none⟩):=f3;rw[e3] at hK ⊢;have c1:W.cell? ⟨w.heap.size+1,1,none⟩=_:=zcH hI.2.1 1;go_simp;refine hK _ _ trivial (by simpa [updB] using hI) (fun _ _=>rfl)
     refine ObsF.cons (fun ρ L W hR hI hL hD hO hF K hK=>?_) ?_
     ·skip
      have f4:=allF_get hF (j:=4) (by decide);clear hF hD hO hR;simp only[Act.put,zsA,zsB,zsC] at hK ⊢;have e4:ρ 4=.string x:=f4;rw[e4] at hK ⊢;go_simp;go_at_call 152;refine(HNM.out _).mono ?_;rintro e W2 ⟨rfl,hu⟩;refine hK _ _ trivial ⟨hI.1.trans hu,(hu.below.block _ (lt_of_heap hI.2.1)).trans hI.2.1,?_⟩ (fun _ _=>rfl);simp only[updB,Nat.reduceEqDiff,if_false];exact(hu.below.block _ (lt_of_heap hI.2.2)).trans hI.2.2
     refine ObsF.cons (fun ρ L W hR hI hL hD hO hF K hK=>?_) ?_
     ·skip
      have f0:=allF_get hF (j:=0) (by decide);clear hF hD hO hR;simp only[Act.put] at hK ⊢;have e0:ρ 0=.agg #[.int .i64 2,.string x,.int .i64 0]:=f0;rw[e0] at hK ⊢;have hlt:=lt_of_heap hI.2.2;haveI:LtW w.heap.size W:=LtW.of hlt;have hbb:W.heap[w.heap.size]?=some (Obj.cells #[if L 6=true then .int .i64 2 else .int .i64 0,if L 6=true then .string x else .string ⟨#[]⟩,.int .i64 0] 66 (0,0)):=hI.2.2;rw[hL] at hbb;have c0:W.cell? ⟨w.heap.size,0,none⟩=_:=zcH hbb 0;have c1:W.cell? ⟨w.heap.size,1,none⟩=_:=zcH hbb 1;have c2:W.cell? ⟨w.heap.size,2,none⟩=_:=zcH hbb 2;have p0:=zfH hbb 0;have p1:=zfH hbb 1;have p2:=zfH hbb 2;go_simp;refine hK undef _ trivial ⟨((hI.1.setCell (p:=⟨w.heap.size,0,none⟩) (Nat.le_refl _) _).setCell (p:=⟨w.heap.size,1,none⟩) (Nat.le_refl _) _).setCell (p:=⟨w.heap.size,2,none⟩) (Nat.le_refl _) _,?_,?_⟩ (fun _ _=>trivial)
      ·rw[heap_setCell_other _ _ _ _ (by simp),heap_setCell_other _ _ _ _ (by simp),heap_setCell_other _ _ _ _ (by simp)];exact hI.2.1
      ·simp only[updB,if_true]
       exact heap_setCell_same _ _ 2 _ _ _ (heap_setCell_same _ _ 1 _ _ _ (heap_setCell_same _ _ 0 _ _ _ hbb))
     refine ObsF.cons (fun ρ L W hR hI hL hD hO hF K hK=>?_) ?_
     ·skip
      have f2:=allF_get hF (j:=2) (by decide);clear hF hD hO hR;simp only[Act.put,zsA,zsB,zsC] at hK ⊢;have e2:ρ 2=.int .i64 ((m:Int)+1+1):=f2;rw[e2] at hK ⊢;go_simp;refine hK _ _ trivial (by simpa [updB] using hI) (fun _ _=>rfl)
     refine ObsF.cons (fun ρ L W hR hI hL hD hO hF K hK=>?_) ?_
     ·skip
      have f5:=allF_get hF (j:=5) (by decide);clear hF hD hO hR;simp only[Act.put,zsA,zsB,zsC] at hK ⊢;have e5:ρ 5=.bool vb:=f5;rw[e5] at hK ⊢;go_simp;refine hK _ _ trivial (by simpa [updB] using hI) (fun _ _=>rfl)
     exact ObsF.nil
    ·skip
     intro ρ L W hR hI hL hF;obtain⟨_,_,_,_,_,_,_,g7,g8,_⟩:=hF;have g7:ρ 7=.int .i64 ((m:Int)+1+1):=g7;have g8:ρ 8=.bool vb:=g8;rw[g7,g8];clear g7 g8 hR;have hbb:=hI.2.2;rw[hL 6 (by decide)] at hbb;simp only[if_true] at hbb;have c0:W.cell? ⟨w.heap.size,0,none⟩=_:=zcH hbb 0;have c1:W.cell? ⟨w.heap.size,1,none⟩=_:=zcH hbb 1;have c2:W.cell? ⟨w.heap.size,2,none⟩=_:=zcH hbb 2;have HU:=hid hI.1;clear hI hL hbb;go_wp2;refine bodyPost_ret (v:=.tuple #[.agg #[.int .i64 2,.string x,.int .i64 0],.int .i64 ((m:Int)+1+1),.bool vb]) (by simp[results,Tryz.results209,go_sem,c0,c1,c2]) rfl ?_;cases vb
     ·exact tagEnd_none HT.out HU.out
     ·exact tagEnd_some HT.out rfl (by omega) HU.out
end Go.Proofs.YtcfhfdphoidaeaaGreatDoor
namespace Go.Proofs.YtcfhfdphoidaeaaGreatDoor.St
theorem index_at:∀ {s sub:List UInt8} {i:Nat},Lib.index s sub=(i:Int)->Lib.occAt s sub i=true/\(∀ j,j<i->Lib.occAt s sub j=false)/\i<=s.length
 | [],sub,i,h=>by
  unfold Lib.index at h
  split at h
  ·rename_i h0
   obtain rfl:i=0:=by omega
   refine⟨?_,fun j hj=>absurd hj (Nat.not_lt_zero _),Nat.le_refl _⟩;cases sub with
   | nil=>rfl
   | cons a t=>cases h0
  ·omega
 | b :: l,sub,i,h=>by
  unfold Lib.index at h
  split at h
  ·rename_i h0
   obtain rfl:i=0:=by omega
   exact⟨by simpa [Lib.occAt] using h0,fun j hj=>absurd hj (Nat.not_lt_zero _),Nat.zero_le _⟩
  ·rename_i h0
   split at h
   ·omega
   ·rename_i h1
    have hge:=Lib.index_ge l sub;have hne:Lib.index l sub ≠ -1:=by simpa using h1
    obtain⟨k,rfl⟩:∃ k,i=k+1:=⟨i-1,by omega⟩;obtain⟨g1,g2,g3⟩:=index_at (s:=l) (sub:=sub) (i:=k) (by omega);refine⟨by simpa [Lib.occAt] using g1,fun j hj=>?_,by simpa using g3⟩;cases j with
    | zero=>exact Bool.eq_false_iff.2 (by simpa [Lib.occAt] using h0)
    | succ j=>simpa [Lib.occAt] using g2 j (by omega)
theorem index_room{s sub:List UInt8}{i:Nat}(h:Lib.index s sub=(i:Int))(h0:sub ≠ []):i+sub.length<=s.length:=by
 have h1:=(index_at h).1;unfold Lib.occAt at h1;have h2:=(List.isPrefixOf_iff_prefix.1 h1).length_le;rw[List.length_drop] at h2;have h3:0<sub.length:=List.length_pos_iff.2 h0;omega
def outsM(l:List UInt8):Option (Nat × List UInt8):=
 if l.head? ≠ some 60 then some (1,[]) else
 if ([60,33,45,45]:List UInt8).isPrefixOf l then (if Lib.index (l.drop 4) [45,45,62]<0 then none else some ((Lib.index (l.drop 4) [45,45,62]).toNat+7,[])) else
 match tagL l with
 | none=>none
 | some (k,t,n)=>if blockL (nameOf t) then (if k=2 then some (n,nameOf t) else none) else some (n,[])
def endM(b:List UInt8):List UInt8:=[60,47]++b++[62]
def mkS(dE:List UInt8->Nat × Int)(dig:Nat->List UInt8)(d:List UInt8):Nat->Nat->Nat->PS->Except (Nat × Int) PS
 | 0,_,_,s=>.ok s
 | fuel+1,a,r,s=>
  if d.length<=a then .ok s else
  match outsM (d.drop a) with
  | none=>.error (a,2)
  | some (n,b)=>
   if b=[] then mkS dE dig d fuel (a+n) r s else
   let j:=Lib.index (d.drop (a+n)) (endM b)
   if j<0 then (if (dE (d.drop (a+n))).2 ≠ 0 then .error (a+n+(dE (d.drop (a+n))).1,(dE (d.drop (a+n))).2) else .error (d.length,2)) else
   if (dE (cutL d (a+n) (a+n+j.toNat))).2 ≠ 0 then .error (a+n+(dE (cutL d (a+n) (a+n+j.toNat))).1,(dE (cutL d (a+n) (a+n+j.toNat))).2) else
   mkS dE dig d fuel (a+n+j.toNat+(b.length+3)) (r+1) (unitS d s (a+n) (a+n+j.toNat) (dig (r+1)))
def splitM(dE:List UInt8->Nat × Int)(dig:Nat->List UInt8)(d:List UInt8):List Pt × Nat × Int:=
 if 65536<d.length then ([],0,3) else
 match mkS dE dig d (d.length+1) 0 0 ([],0) with
 | .error (a,e)=>([],a,e)
 | .ok s=>(endS d s,0,0)
def endM'(d:List UInt8):Except (Nat × Int) PS->List Pt × Nat × Int
 | .error (a,e)=>([],a,e)
 | .ok s=>(endS d s,0,0)
theorem splitM_ok{dE:List UInt8->Nat × Int}{dig:Nat->List UInt8}{d:List UInt8}(h:¬ 65536<d.length):splitM dE dig d=endM' d (mkS dE dig d (d.length+1) 0 0 ([],0)):=by
 rw[splitM,if_neg h];cases mkS dE dig d (d.length+1) 0 0 ([],0) <;> rfl
section
variable {dE:List UInt8->Nat × Int} {dig:Nat->List UInt8} {d:List UInt8} {fuel a r n:Nat} {b:List UInt8} {s:PS}
theorem mkS_end(h:d.length<=a):mkS dE dig d fuel a r s=.ok s:=by
 cases fuel with
 | zero=>rfl
 | succ f=>rw[mkS,if_pos h]
theorem mkS_bad(h:¬ d.length<=a)(h1:outsM (d.drop a)=none):mkS dE dig d (fuel+1) a r s=.error (a,2):=by rw[mkS,if_neg h,h1]
theorem mkS_skip(h:¬ d.length<=a)(h1:outsM (d.drop a)=some (n,[])):mkS dE dig d (fuel+1) a r s=mkS dE dig d fuel (a+n) r s:=by rw[mkS,if_neg h,h1];simp only[if_true]
theorem mkS_open(h:¬ d.length<=a)(h1:outsM (d.drop a)=some (n,b))(hb:b ≠ [])(hj:Lib.index (d.drop (a+n)) (endM b)<0)(he:(dE (d.drop (a+n))).2=0):mkS dE dig d (fuel+1) a r s=.error (d.length,2):=by
 rw[mkS,if_neg h,h1];simp only;rw[if_neg hb,if_pos hj,if_neg (by rw[he];decide)]
theorem mkS_openE(h:¬ d.length<=a)(h1:outsM (d.drop a)=some (n,b))(hb:b ≠ [])(hj:Lib.index (d.drop (a+n)) (endM b)<0)(he:(dE (d.drop (a+n))).2 ≠ 0):mkS dE dig d (fuel+1) a r s=.error (a+n+(dE (d.drop (a+n))).1,(dE (d.drop (a+n))).2):=by
 rw[mkS,if_neg h,h1];simp only;rw[if_neg hb,if_pos hj,if_pos he]
theorem mkS_err{j:Nat}(h:¬ d.length<=a)(h1:outsM (d.drop a)=some (n,b))(hb:b ≠ [])(hj:Lib.index (d.drop (a+n)) (endM b)=(j:Int))(he:(dE (cutL d (a+n) (a+n+j))).2 ≠ 0):mkS dE dig d (fuel+1) a r s=.error (a+n+(dE (cutL d (a+n) (a+n+j))).1,(dE (cutL d (a+n) (a+n+j))).2):=by
 rw[mkS,if_neg h,h1];simp only;rw[if_neg hb,hj,if_neg (by omega),Int.toNat_natCast,if_pos he]
theorem mkS_unit{j:Nat}(h:¬ d.length<=a)(h1:outsM (d.drop a)=some (n,b))(hb:b ≠ [])(hj:Lib.index (d.drop (a+n)) (endM b)=(j:Int))(he:(dE (cutL d (a+n) (a+n+j))).2=0) :
  mkS dE dig d (fuel+1) a r s=mkS dE dig d fuel (a+n+j+(b.length+3)) (r+1) (unitS d s (a+n) (a+n+j) (dig (r+1))):=by
 rw[mkS,if_neg h,h1];simp only;rw[if_neg hb,hj,if_neg (by omega),Int.toNat_natCast,if_neg (by rw[he];decide)]
end
theorem outs_ne{l:List UInt8}(h:l.head? ≠ some 60):outsM l=some (1,[]):=by unfold outsM;rw[if_pos h]
theorem outs_tag{l:List UInt8}(h:l.head?=some 60)(h2:([60,33,45,45]:List UInt8).isPrefixOf l=false):outsM l=match tagL l with
 | none=>none
 | some (k,t,n)=>if blockL (nameOf t) then (if k=2 then some (n,nameOf t) else none) else some (n,[]):=by
 unfold outsM;rw[if_neg (by simp[h]),h2];rfl
theorem outs_com{l:List UInt8}(h2:([60,33,45,45]:List UInt8).isPrefixOf l=true):outsM l=if Lib.index (l.drop 4) [45,45,62]<0 then none else some ((Lib.index (l.drop 4) [45,45,62]).toNat+7,[]):=by
 have h:l.head?=some 60:=by
  obtain⟨r,rfl⟩:=List.isPrefixOf_iff_prefix.1 h2;rfl
 unfold outsM;rw[if_neg (by simp[h]),if_pos h2]
theorem block_len{t:List UInt8}(h:blockL t=true):t ≠ []/\t.length<=5:=by
 unfold blockL at h;rw[decide_eq_true_eq] at h;rcases h with rfl|rfl|rfl|rfl|rfl <;> simp
theorem outs_len{l:List UInt8}{n:Nat}{b:List UInt8}(h:outsM l=some (n,b))(h0:l ≠ []):1<=n/\n<=l.length/\b.length<=5/\(b ≠ []->blockL b=true):=by
 by_cases h60:l.head?=some 60
 ·cases hc:([60,33,45,45]:List UInt8).isPrefixOf l
  ·rw[outs_tag h60 hc] at h
   cases hq:tagL l with
   | none=>rw[hq] at h;cases h
   | some x=>
    obtain⟨k,t,m⟩:=x;have hl:=tag_len hq;rw[hq] at h;simp only at h
    split at h
    ·rename_i hb
     split at h
     ·simp only[Option.some.injEq,Prod.mk.injEq] at h
      obtain⟨rfl,rfl⟩:=h;exact⟨by omega,hl.2.2.1,(block_len hb).2,fun _=>hb⟩
     ·cases h
    ·simp only[Option.some.injEq,Prod.mk.injEq] at h
     obtain⟨rfl,rfl⟩:=h;exact⟨by omega,hl.2.2.1,by simp,fun e=>absurd rfl e⟩
  ·rw[outs_com hc] at h
   split at h
   ·cases h
   ·rename_i hi
    simp only[Option.some.injEq,Prod.mk.injEq] at h;obtain⟨rfl,rfl⟩:=h;have hp:=(List.isPrefixOf_iff_prefix.1 hc).length_le
    have hb:(Lib.index (l.drop 4) [45,45,62]).toNat+3<=(l.drop 4).length:=by
     obtain⟨i,hi2⟩:∃ i:Nat,Lib.index (l.drop 4) [45,45,62]=(i:Int):=⟨_,(Int.toNat_of_nonneg (by omega)).symm⟩;rw[hi2];exact index_room hi2 (by simp)
    rw[List.length_drop] at hb;simp at hp;exact⟨by omega,by omega,by simp,fun e=>absurd rfl e⟩
 ·rw[outs_ne h60] at h
  simp only[Option.some.injEq,Prod.mk.injEq] at h;obtain⟨rfl,rfl⟩:=h;exact⟨by omega,List.length_pos_iff.2 h0,by simp,fun e=>absurd rfl e⟩
end Go.Proofs.YtcfhfdphoidaeaaGreatDoor.St
namespace Go.Proofs.YtcfhfdphoidaeaaGreatDoor.Mk
open Go.RowKit
section
def OutEnd(R:Option (Nat × List UInt8))(w:World)(e:Ending)(w':World):Prop:=Und w w'/\match R with
 | some (n,b)=>e=.returned (.tuple #[.int .i64 n,.string ⟨b.toArray⟩,.bool true])
 | none=>∃ (m:Int) (x:ByteArray),e=.returned (.tuple #[.int .i64 m,.string x,.bool false])
theorem outEnd_some{R:Option (Nat × List UInt8)}{w w':World}{n:Nat}{b:List UInt8}{x:ByteArray}{m:Int}(hR:R=some (n,b))(hx:x.data.toList=b)(hm:m=n)(hu:Und w w'):OutEnd R w (.returned (.tuple #[.int .i64 m,.string x,.bool true])) w':=by
 subst hm hx hR;exact⟨hu,by simp only[ba_eta]⟩
theorem outEnd_none{R:Option (Nat × List UInt8)}{w w':World}{x:ByteArray}{m:Int}(hR:R=none)(hu:Und w w'):OutEnd R w (.returned (.tuple #[.int .i64 m,.string x,.bool false])) w':=by
 subst hR;exact⟨hu,_,_,rfl⟩
theorem outside_any(s:ByteArray)(m:Int)(w:World)(hm:w.cell? ⟨0,0,none⟩=some (.int .i64 m))(hs:s.size<=65536)(h0:0<s.size) :
  Calls Tryz.prog 158 #[.string s] w (OutEnd (St.outsM s.data.toList) w):=by
 have hcr:s.data.toList=s[0] :: s.data.toList.drop 1:=St.list_zero s h0;have hlen:=St.len_list s
 by_cases c60:s[0].toNat=60
 rotate_left 1
 ·have f60:((s[0].toNat:Int) != 60)=true:=by simp;omega
  have HR:=hid (St.outs_ne (l:=s.data.toList) (by rw[hcr];simp;intro e;exact c60 (by rw[e];rfl)));clear hcr hlen hm;go_enter Tryz.func158,Tryz.ntmps158;go_wp2;go_ret3;exact outEnd_some HR.out rfl rfl ((by apply_rules[uUe,uUa,uUb,uUc,uUd]))
 have f60:((s[0].toNat:Int) != 60)=false:=by simp;omega
 have hhd:s.data.toList.head?=some 60:=by rw[hcr];simp;exact UInt8.toNat_inj.1 c60
 have hpre:=fun W=>hasPre_any s ⟨#[60,33,45,45]⟩ W (by omega) (by show 4<=_;omega)
 cases hp:preB ⟨#[60,33,45,45]⟩ s with
 | true=>
  rw[hp] at hpre;have hp':([60,33,45,45]:List UInt8).isPrefixOf s.data.toList=true:=hp;have h4:4<=s.size:=by have:=(List.isPrefixOf_iff_prefix.1 hp').length_le;simpa using this
  have z4:(4:Int)<=(s.size:Int):=by omega
  obtain⟨x,hx⟩:∃ x,s.extract 4 s.size=x:=⟨_,rfl⟩;have hxl:x.data.toList=s.data.toList.drop 4:=by rw[<- hx,Lib.extract_data,List.take_of_length_le (by simp)]
  have hxs:x.size=s.size-4:=by rw[<- hx];simp
  have hR:=St.outs_com hp';rw[<- hxl] at hR;have hix:=fun W (hW:W.cell? ⟨0,0,none⟩=some (.int .i64 m))=>Tryz.strings_Index x ⟨#[45,45,62]⟩ m W (by omega) hW
  have hge:=Lib.index_ge x.data.toList [45,45,62]
  have hle:Lib.index x.data.toList [45,45,62]<=65536:=by
   by_cases hn:Lib.index x.data.toList [45,45,62]<0
   ·omega
   ·obtain⟨i,hi⟩:∃ i:Nat,Lib.index x.data.toList [45,45,62]=(i:Int):=⟨_,(Int.toNat_of_nonneg (by omega)).symm⟩
    have:=(St.index_at hi).2.2
    rw[St.len_list] at this;omega
  have hq:Lib.index x.data.toList (⟨#[45,45,62]⟩:ByteArray).data.toList=Lib.index x.data.toList [45,45,62]:=rfl;simp only[hq] at hix;clear hq;generalize Lib.index x.data.toList [45,45,62]=z at hR hix hge hle;have HPR:=hid hpre;have HIX:=hid hix;have HM:=hid hm;clear hpre hix hm hp hp' hcr hhd hxl hlen
  by_cases hz:z<0
  ·have z1:¬ (0:Int)<=z:=by omega
   rw[if_pos hz] at hR;have HR:=hid hR;clear hR;go_enter Tryz.func158,Tryz.ntmps158;go_wp2_with fail;refine(HPR.out _).mono ?_;rintro e w2 ⟨rfl,rfl⟩;go_wp2_with fail;refine(HIX.out _ ?_).mono ?_
   ·first|exact HM.out|(simp;exact HM.out)
   rintro e w2 ⟨rfl,rfl⟩;go_wp2;go_ret3;simp only[show (decide ((0:Int)<=z))=false from decide_eq_false (by omega)];refine outEnd_none HR.out ?_;exact(by apply_rules[uUe,uUa,uUb,uUc,uUd])
  ·have z1:(0:Int)<=z:=by omega
   rw[if_neg hz] at hR;have HR:=hid hR;clear hR;go_enter Tryz.func158,Tryz.ntmps158;go_wp2_with fail;refine(HPR.out _).mono ?_;rintro e w2 ⟨rfl,rfl⟩;go_wp2_with fail;refine(HIX.out _ ?_).mono ?_
   ·first|exact HM.out|(simp;exact HM.out)
   rintro e w2 ⟨rfl,rfl⟩;go_wp2;go_ret3;simp only[show (decide ((0:Int)<=z))=true from decide_eq_true z1];refine outEnd_some HR.out rfl (by omega) ?_;exact(by apply_rules[uUe,uUa,uUb,uUc,uUd])
 | false=>
  rw[hp] at hpre;have hp':([60,33,45,45]:List UInt8).isPrefixOf s.data.toList=false:=hp;have hR:=St.outs_tag hhd hp';have htg:=fun W=>mtag_any s W (by omega) h0 c60
  have HPR:=hid hpre;cases hq:St.tagL s.data.toList with
  | none=>
   rw[hq] at hR htg;have HR:=hid hR;have HTG:=hid htg;clear hR htg hq hpre hp hp' hcr hhd hlen hm;go_enter Tryz.func158,Tryz.ntmps158;go_wp2_with fail;refine(HPR.out _).mono ?_;rintro e w2 ⟨rfl,rfl⟩;go_wp2_with fail;refine(HTG.out _).mono ?_;rintro e w3 ⟨hu,k,x,q,rfl⟩;have HU:=hid hu;clear hu;go_wp2;go_ret3;exact outEnd_none HR.out (HU.out.trans ((by apply_rules[uUe,uUa,uUb,uUc,uUd])))
  | some q=>
   obtain⟨k,t,n⟩:=q
   have htl:t.length<=4611686018427387904:=by
    have:=St.tag_len hq
    rw[St.len_list] at this;omega
   rw[hq] at hR htg;simp only at hR;obtain⟨tb,htb⟩:∃ tb:ByteArray,(⟨t.toArray⟩:ByteArray)=tb:=⟨_,rfl⟩;obtain⟨nb,hnb⟩:∃ nb:ByteArray,(⟨(St.nameOf t).toArray⟩:ByteArray)=nb:=⟨_,rfl⟩;have hnm:=fun W=>mname_any t W htl
   have hnbl:nb.data.toList=St.nameOf t:=by rw[<- hnb]
   have hbk:=fun W=>misblock_any nb W
   rw[hnbl] at hbk;have htg2:∀ W,Calls Tryz.prog 209 #[.string s] W fun e w'=>Und W w'/\e=.returned (.tuple #[.agg #[.int .i64 k,.string ⟨t.toArray⟩,.int .i64 0],.int .i64 n,.bool true]):=htg
   rw[htb] at htg2;rw[htb,hnb] at hnm;have HNM:=hid hnm;have HTG:=hid htg2;cases hb:St.blockL (St.nameOf t) with
   | false=>
    rw[hb] at hR hbk;have HBK:=hid hbk;have HR:=hid (show St.outsM s.data.toList=some (n,[]) from hR);clear hR htg htg2 hq hpre hp hp' hcr hhd hlen hm hnm hbk hb htb hnb hnbl;go_enter Tryz.func158,Tryz.ntmps158;go_wp2_with fail;refine(HPR.out _).mono ?_;rintro e w2 ⟨rfl,rfl⟩;go_wp2_with fail;refine(HTG.out _).mono ?_;rintro e w3 ⟨hu,rfl⟩;have HU:=hid hu;clear hu;go_wp2_with fail;refine(HNM.out _).mono ?_;rintro e w4 ⟨rfl,hu⟩;have HU2:=hid ((HU.out.alloc _).trans hu);clear hu;go_wp2_with fail;refine(HBK.out _).mono ?_;rintro e w5 ⟨rfl,rfl⟩;go_wp2;go_ret3;exact outEnd_some HR.out rfl rfl (HU2.out.trans ((by apply_rules[uUe,uUa,uUb,uUc,uUd])))
   | true=>
    rw[hb] at hR hbk;have HBK:=hid hbk;have HR:=hid (show St.outsM s.data.toList=if k=2 then some (n,St.nameOf t) else none from hR);have HNL:=hid hnbl;clear hR htg htg2 hq hpre hp hp' hcr hhd hlen hm hnm hbk hb htb hnb hnbl;go_enter Tryz.func158,Tryz.ntmps158;go_wp2_with fail;refine(HPR.out _).mono ?_;rintro e w2 ⟨rfl,rfl⟩;go_wp2_with fail;refine(HTG.out _).mono ?_;rintro e w3 ⟨hu,rfl⟩;have HU:=hid hu;clear hu;go_wp2_with fail;refine(HNM.out _).mono ?_;rintro e w4 ⟨rfl,hu⟩;have hbx:=(hu.below.block w3.heap.size (by simp)).trans (heap_alloc_at w3 (.cells #[.int .i64 k,.string tb,.int .i64 0] 66) w3.heap.size rfl);have x0:w4.cell? ⟨w3.heap.size,0,none⟩=some (.int .i64 k):=zcH hbx 0;have x1:w4.cell? ⟨w3.heap.size,1,none⟩=some (.string tb):=zcH hbx 1;haveI:LtW w3.heap.size w4:=LtW.of (lt_of_heap hbx);have HU2:=hid ((HU.out.alloc _).trans hu);clear hu hbx;go_wp2_with fail;refine(HBK.out _).mono ?_;rintro e w5 ⟨rfl,rfl⟩;go_wp2_with fail
    first|refine wp_region_under2 (by kernel_rfl) (by kernel_rfl) ?_|refine wp_region_under (by kernel_rfl) (by kernel_rfl) ?_
    repeat (go_big_quiet_step (first|(go_at_call 178;exact Calls.under_of (HNM.out _))))
    refine wpQuiet_nil ?_;rintro _ ⟨X,rfl⟩;have HU3:=hid (HU2.out.trans (show Und w4 _ from(by apply_rules[uUe,uUa,uUb,uUc,uUd])))
    by_cases hk:k=2
    ·subst hk
     have HR2:=hid (HR.out.trans (if_pos rfl));clear HR;go_wp2;go_ret3;exact outEnd_some HR2.out HNL.out rfl (HU3.out.trans ((by apply_rules[uUe,uUa,uUb,uUc,uUd])))
    ·have hkb:(k==2)=false:=by simpa using hk
     have HR2:=hid (HR.out.trans (if_neg hk));clear HR;go_wp2;go_ret3;simp only[hkb];exact outEnd_none HR2.out (HU3.out.trans ((by apply_rules[uUe,uUa,uUb,uUc,uUd])))
end
section
section
variable {w W w4:World} {B b:Nat} {v0 v1 v2 v v':Value} {its op op':List St.It} {tx:List UInt8} {cuts:List Nat} {c c':Nat}
theorem BV.set3(h:BV ⟨v,op,c⟩ w B b v0 v1 v2 its tx cuts)(ho:w.ownsRow B 66 3 v' op'.length (cellsIt op'))(hd:v'.ownBlock=v.ownBlock):BV ⟨v',op',c⟩ (w.setCell ⟨b,3,none⟩ v') B b v0 v1 v2 its tx cuts:=by
 obtain⟨h0,h1,h2,h3,h4,h5,h6⟩:=h;exact⟨h0,heap_setCell_same w b 3 _ _ v' h1,own_set h2 (own_ne h2 h1 (by decide)),own_set h3 (own_ne h3 h1 (by decide)),own_set h4 (own_ne h4 h1 (by decide)),own_set ho (own_ne ho h1 (by decide)),by unfold Dis at h6 ⊢;rw[hd];exact h6⟩
theorem BV.set4(h:BV ⟨v,op,c⟩ w B b v0 v1 v2 its tx cuts)(m:Int)(hm:m=(c':Int)):BV ⟨v,op,c'⟩ (w.setCell ⟨b,4,none⟩ (.int .i64 m)) B b v0 v1 v2 its tx cuts:=by
 subst hm;obtain⟨h0,h1,h2,h3,h4,h5,h6⟩:=h;exact⟨h0,heap_setCell_same w b 4 _ _ _ h1,own_set h2 (own_ne h2 h1 (by decide)),own_set h3 (own_ne h3 h1 (by decide)),own_set h4 (own_ne h4 h1 (by decide)),own_set h5 (own_ne h5 h1 (by decide)),h6⟩
theorem BV.grow3(h:BV ⟨v,op,c⟩ w B b v0 v1 v2 its tx cuts)(hg:w.grownBy w4 v.ownBlock)(hw:w.heap.size<=W.heap.size)(hf:Fresh W v v')(ho:w4.ownsRow B 66 3 v' op'.length (cellsIt op')):BV ⟨v',op',c⟩ (w4.setCell ⟨b,3,none⟩ v') B b v0 v1 v2 its tx cuts:=by
 obtain⟨h0,h1,h2,h3,h4,h5,h6⟩:=h;have hb4:w4.heap[b]?=some (Obj.cells ⟨v0 :: v1 :: v2 :: Mo.l ⟨v,op,c⟩⟩ rdT (0,0)):=(hg.block b (lt_of_heap h1) (fun e=>own_ne h5 h1 (by decide) e.symm)).trans h1;exact⟨h0,heap_setCell_same w4 b 3 _ _ v' hb4,own_set (h2.kept hg h6) (own_ne h2 h1 (by decide)),own_set (h3.kept hg (rows_ne h3 h5 (by decide))) (own_ne h3 h1 (by decide)),own_set (h4.kept hg (rows_ne h4 h5 (by decide))) (own_ne h4 h1 (by decide)),own_set ho (own_ne ho hb4 (by decide)),dis_symm (dis_fresh h2 hw (dis_symm h6) hf)⟩
theorem BV.at(h:BV ⟨v,op,c⟩ w B b v0 v1 v2 its tx cuts):w.cell? ⟨b,3,none⟩=some v/\w.cell? ⟨b,4,none⟩=some (.int .i64 (c:Int))/\w.frozen? ⟨b,3,none⟩=false/\w.frozen? ⟨b,4,none⟩=false/\b<w.heap.size/\B<=b:=by
 have hb:=h.2.1;exact⟨zcH hb 3,zcH hb 4,zfH hb 3,zfH hb 4,lt_of_heap hb,h.1⟩
end
def TgEnd(mo:Mo)(w:World)(B b:Nat)(its:List St.It)(tx:List UInt8)(cuts:List Nat)(k:Int)(t:List UInt8)(off:Nat)(e:Ending)(w':World):Prop:=
 Below B w w'/\match St.stepT mo.op mo.c k t with
  | none=>e=.returned (.int .i64 7)
  | some (i,op',c')=>if 512<(St.addI (its++St.txt tx) (k,t,i)).length∨1024<=cuts.length then e=.returned (.int .i64 3) else
    e=.returned (.int .i64 0)/\∃ v',BAt ⟨v',op',c'⟩ w' B b (its++St.txt tx++[(k,t,i)]) [] (cuts++[off])
section
variable {mo:Mo} {w:World} {B b:Nat} {its:List St.It} {tx:List UInt8} {cuts:List Nat} {k:Int} {t:List UInt8} {off:Nat} {w':World} {i:Int} {op':List St.It} {c':Nat}
theorem full_itemi{f:List St.It}{t:List UInt8}(k:Int)(s:List UInt8)(i:Int)(nc:Nat)(hk:k ≠ 1):(512<(St.addI (f++St.txt t) (k,s,i)).length∨1024<=nc) ↔ St.fullB f.length t.length nc false=true:=by
 rw[<- St.full_item (f:=f) (t:=t) k s nc hk]
 have e:(St.addI (f++St.txt t) (k,s,i)).length=(St.addI (f++St.txt t) (k,s,0)).length:=by
  unfold St.addI;rw[if_neg hk,if_neg hk];simp
 rw[e]
theorem Below.und{B:Nat}{a b c:World}(h:Below B a b)(hB:B<=b.heap.size)(u:Und b c):Below B a c:=h.trans (u.below.mono hB)
theorem tg_none(h:St.stepT mo.op mo.c k t=none)(hb:Below B w w'):TgEnd mo w B b its tx cuts k t off (.returned (.int .i64 7)) w':=by
 refine⟨hb,?_⟩;rw[h]
theorem tg_full(h:St.stepT mo.op mo.c k t=some (i,op',c'))(hk:k ≠ 1)(hf:St.fullB its.length tx.length cuts.length false=true)(hb:Below B w w'):TgEnd mo w B b its tx cuts k t off (.returned (.int .i64 3)) w':=by
 refine⟨hb,?_⟩;rw[h];simp only;rw[if_pos ((full_itemi k t i cuts.length hk).2 hf)];trivial
theorem tg_item(h:St.stepT mo.op mo.c k t=some (i,op',c'))(hk:k ≠ 1)(hf:St.fullB its.length tx.length cuts.length false=false)(hb:Below B w w'){v':Value}(hB:BAt ⟨v',op',c'⟩ w' B b (its++St.txt tx++[(k,t,i)]) [] (cuts++[off])):TgEnd mo w B b its tx cuts k t off (.returned (.int .i64 0)) w':=by
 refine⟨hb,?_⟩;rw[h];simp only;rw[if_neg (fun h2=>by rw[(full_itemi k t i cuts.length hk).1 h2] at hf;cases hf)];exact⟨trivial,v',hB⟩
end
theorem tagged_any(mo:Mo)(w:World)(B b:Nat)(its:List St.It)(tx:List UInt8)(cuts:List Nat)(k:Int)(x:ByteArray)(off:Nat)(h:BAt mo w B b its tx cuts)(hk:k=2∨k=3∨k=4)(h1:its.length<=512)(h2:cuts.length<=1024)(h3:tx.length<=cuts.length)(h4:mo.op.length<=2000)(h5:mo.c<=2000)(h6:tot mo.op<=4611686018427387904)(hBw:B<=w.heap.size)
  (hx:x.size<=4611686018427387904) :
  Calls Tryz.prog 244 #[.pointer (some ⟨b,0,none⟩),.agg #[.int .i64 k,.string x,.int .i64 0],.int .i64 off] w (TgEnd mo w B b its tx cuts k x.data.toList off):=by
 obtain⟨v,op,c⟩:=mo;simp only at h4 h5 h6;obtain⟨v0,v1,v2,hv⟩:=h;obtain⟨A3,c3,rfl,hc31,hc32⟩:=own_slice (show w.ownsRow B 66 3 v op.length (cellsIt op) from hv.2.2.2.2.2.1);obtain⟨g3,g4,f3,f4,hblt,hBb⟩:=hv.at;have g3':w.cell? ⟨b,3,none⟩=some (.slice A3 op.length c3):=g3;clear g3;haveI:LtW b w:=LtW.of hblt;have HV:=hid hv;rcases hk with rfl|rfl|rfl
 ·
  have HST:=hid (show St.stepT (⟨.slice A3 op.length c3,op,c⟩:Mo).op c 2 x.data.toList=some ((c:Int)+1,op++[(2,x.data.toList,(c:Int)+1)],c+1) from rfl);clear hv;obtain⟨i0,hi,hz0,hz1,hz2⟩:=info_parts info_item;go_enter Tryz.func244,Tryz.ntmps244;go_wp2_with fail;have hu8:Und (w.setCell ⟨b,4,none⟩ (.int .i64 ((c:Int)+1))) ((w.setCell ⟨b,4,none⟩ (.int .i64 ((c:Int)+1))).alloc (Obj.cells #[.int .i64 2,.string x,.int .i64 ((c:Int)+1)] 66)):=(by apply_rules[uUe,uUa,uUb,uUc,uUd]);have HV8:=hid ((BV.set4 (c':=c+1) HV.out ((c:Int)+1) (by omega)).und hu8);have HBX8:=hid (heap_alloc_at (w.setCell ⟨b,4,none⟩ (.int .i64 ((c:Int)+1))) (Obj.cells #[.int .i64 2,.string x,.int .i64 ((c:Int)+1)] 66) w.heap.size (by simp));have hB8:B<=((w.setCell ⟨b,4,none⟩ (.int .i64 ((c:Int)+1))).alloc (Obj.cells #[.int .i64 2,.string x,.int .i64 ((c:Int)+1)] 66)).heap.size:=by simp;omega
  have HB8:=hid ((((Below.refl B w).setCell (p:=⟨b,4,none⟩) hBb (.int .i64 ((c:Int)+1))).alloc (by simp;omega) (Obj.cells #[.int .i64 2,.string x,.int .i64 ((c:Int)+1)] 66)));clear hu8;generalize (w.setCell ⟨b,4,none⟩ (.int .i64 ((c:Int)+1))).alloc (Obj.cells #[.int .i64 2,.string x,.int .i64 ((c:Int)+1)] 66)=W8 at *;obtain⟨q3,_,qf3,_,hlt8,_⟩:=HV8.out.at;have q3':W8.cell? ⟨b,3,none⟩=some (.slice A3 op.length c3):=q3;have x0:W8.cell? ⟨w.heap.size,0,none⟩=some (.int .i64 2):=zcH HBX8.out 0;have x1:W8.cell? ⟨w.heap.size,1,none⟩=some (.string x):=zcH HBX8.out 1;have x2:W8.cell? ⟨w.heap.size,2,none⟩=some (.int .i64 ((c:Int)+1)):=zcH HBX8.out 2;haveI:LtW w.heap.size W8:=LtW.of (lt_of_heap HBX8.out);haveI:LtW b W8:=LtW.of hlt8;have HO3:=hid (show W8.ownsRow B 66 3 (.slice A3 op.length c3) op.length (cellsIt op) from HV8.out.2.2.2.2.2.1);clear q3;generalize hno:op.length=no at *;go_region_law (refine step_append_own2 rfl (.tmp 72) (.tmp 74) 24 rfl B 66 i0 (.agg #[.int .i64 0,.string ⟨#[]⟩,.int .i64 0]) 3 32 Tryz.underlying24 hi hz0 hz1 hz2 rfl (by decide) (.slice A3 no c3) no _ rfl (owns_und (HO3.out.alloc (.cells #[.int .i64 2,.string x,.int .i64 ((c:Int)+1)] 66)) (Und.refl _).drew) ⟨W8.heap.size,0,none⟩ 1 1 [.int .i64 2,.string x,.int .i64 ((c:Int)+1)] rfl rfl (side3b W8 _ _ _ 66 _ rfl) (item_one 2 ((c:Int)+1) _) (by unfold maxLen;omega) (by omega) (by simp;omega) ?_;intro v' w1 hown' hgrow hfr0;have hgr:=gb_trans (Und.gb ((by apply_rules[uUe,uUa,uUb,uUc,uUd]):Und W8 (W8.alloc (.cells #[.int .i64 2,.string x,.int .i64 ((c:Int)+1)] 66)).drew) (Value.slice A3 no c3).ownBlock) hgrow (fun g e=>Or.inl e);have hb4:=(hgr.block b hlt8 (fun e=>own_ne HO3.out HV8.out.2.1 (by decide) e.symm)).trans HV8.out.2.1;have e3:w1.cell? ⟨b,3,none⟩=some (.slice A3 no c3):=zcH hb4 3;have f3':w1.frozen? ⟨b,3,none⟩=false:=zfH hb4 3;haveI:LtW b w1:=LtW.of (lt_of_heap hb4);obtain⟨A',c',rfl,_⟩:=own_slice hown')
  all_goals
   have hBV9:BV ⟨.slice A' (no+1) c',op++[(2,x.data.toList,(c:Int)+1)],c+1⟩ (w1.setCell ⟨b,3,none⟩ (.slice A' (no+1) c')) B b v0 v1 v2 its tx cuts:=by
    refine BV.grow3 HV8.out (by simpa using hgr) (by simp) hfr0 ?_;rw[List.length_append,List.length_singleton,hno,cellsIt_snoc];simp only[ba_eta];exact hown'
   have hbx9:(w1.setCell ⟨b,3,none⟩ (.slice A' (no+1) c')).heap[w.heap.size]?=some (Obj.cells #[.int .i64 2,.string x,.int .i64 ((c:Int)+1)] 66):=by
    rw[heap_setCell_other _ _ _ _ (by show w.heap.size ≠ b;omega)];refine(hgr.block _ (lt_of_heap HBX8.out) (fun e=>?_)).trans HBX8.out;have:=(HV.out.2.2.2.2.2.1.lt w.heap.size (by rw[e])).2
    omega
   have hbl9:Below B w (w1.setCell ⟨b,3,none⟩ (.slice A' (no+1) c')):=below_step HB8.out hB8 hgr (fun g hg=>owns_block HO3.out g hg) hBb;have hB9:B<=(w1.setCell ⟨b,3,none⟩ (.slice A' (no+1) c')).heap.size:=Nat.le_trans hBw hbl9.size;have HV9:=hid hBV9;have HBX:=hid hbx9;have HB9:=hid hbl9;clear hBV9 hbx9 hbl9 hgr hgrow hown' hb4 hfr0 e3 f3' HV8 HBX8 HB8 HO3 x0 x1 x2 q3' qf3;generalize w1.setCell ⟨b,3,none⟩ (.slice A' (no+1) c')=W9 at *;go_wp2_with fail;have HIT:=hid (item_any W9.drew B b its tx cuts 2 ((c:Int)+1) x off (BAt.und ⟨_,_,_,HV9.out⟩ ((Und.refl W9).drew)) (by omega) (by omega) (by omega) hB9);have x0:W9.cell? ⟨w.heap.size,0,none⟩=some (.int .i64 2):=zcH HBX.out 0;have x1:W9.cell? ⟨w.heap.size,1,none⟩=some (.string x):=zcH HBX.out 1;have x2:W9.cell? ⟨w.heap.size,2,none⟩=some (.int .i64 ((c:Int)+1)):=zcH HBX.out 2;haveI:LtW w.heap.size W9:=LtW.of (lt_of_heap HBX.out);refine wp_region_facts (fun _ _=>True) (fun L W=>if L 5=true then (St.fullB its.length tx.length cuts.length false=false->BAt ⟨.slice A' (no+1) c',op++[(2,x.data.toList,(c:Int)+1)],c+1⟩ W B b (its++St.txt tx++[(2,x.data.toList,((c:Int)+1))]) [] (cuts++[off]))/\Below B W9.drew W else W=W9.drew) ([fun v _=>v=.pointer (some ⟨b,0,none⟩),fun v _=>v=.pointer (some ⟨b,0,none⟩),fun v _=>v=.pointer (some ⟨b,0,none⟩),fun v _=>v=.agg #[.int .i64 2,.string x,.int .i64 ((c:Int)+1)],fun v _=>v=.int .i64 (off:Int),fun v _=>v=.bool (!St.fullB its.length tx.length cuts.length false),fun v _=>v=.int .i64 (limE (!St.fullB its.length tx.length cuts.length false)),fun v _=>v=.int .i64 (limE (!St.fullB its.length tx.length cuts.length false))]) (fun _=>trivial) (fun _ _ _ _ _=>trivial) (by kernel_rfl) (by rfl) (by kernel_rfl) (by kernel_rfl) ?_ ?_ ?_ ?_ ?_;rotate_left 1
   ·skip
    intro ρ;simp only[putAll,Act.put,zsA,zsB,zsC,Nat.zero_add,Nat.reduceAdd];exact rfl
   ·skip
    simp
   ·skip
    refine ObsF.cons (fun ρ L W hR hI hL hD hO hF K hK=>?_) ?_
    ·skip
     clear hF hD hO hR;simp only[Act.put,zsA,zsB,zsC] at hK ⊢;go_simp;refine hK _ _ trivial (by simpa [updB] using hI) (fun _ _=>rfl)
    refine ObsF.cons (fun ρ L W hR hI hL hD hO hF K hK=>?_) ?_
    ·skip
     have f0:=allF_get hF (j:=0) (by decide);clear hF hD hO hR;simp only[Act.put,zsA,zsB,zsC] at hK ⊢;have e0:ρ 0=.pointer (some ⟨b,0,none⟩):=f0;rw[e0] at hK ⊢;go_simp;refine hK _ _ trivial (by simpa [updB] using hI) (fun _ _=>rfl)
    refine ObsF.cons (fun ρ L W hR hI hL hD hO hF K hK=>?_) ?_
    ·skip
     have f1:=allF_get hF (j:=1) (by decide);clear hF hD hO hR;simp only[Act.put,zsA,zsB,zsC] at hK ⊢;have e1:ρ 1=.pointer (some ⟨b,0,none⟩):=f1;rw[e1] at hK ⊢;go_simp;refine hK _ _ trivial (by simpa [updB] using hI) (fun _ _=>rfl)
    refine ObsF.cons (fun ρ L W hR hI hL hD hO hF K hK=>?_) ?_
    ·skip
     have hLc:L 5=false:=hD.not (p:=5) rfl (by decide) hL;rw[if_neg (by rw[hLc];decide)] at hI;subst hI;clear hF hD hO hR;simp only[Act.put,zsA,zsB,zsC] at hK ⊢;go_simp;refine hK _ _ trivial (by simp[updB,hLc]) (fun _ _=>rfl)
    refine ObsF.cons (fun ρ L W hR hI hL hD hO hF K hK=>?_) ?_
    ·skip
     clear hF hD hO hR;simp only[Act.put,zsA,zsB,zsC] at hK ⊢;go_simp;refine hK _ _ trivial (by simpa [updB] using hI) (fun _ _=>rfl)
    refine ObsF.cons (fun ρ L W hR hI hL hD hO hF K hK=>?_) ?_
    ·skip
     have f2:=allF_get hF (j:=2) (by decide);have f3:=allF_get hF (j:=3) (by decide);have f4:=allF_get hF (j:=4) (by decide);rw[if_neg (by rw[hL];decide)] at hI;subst hI;clear hF hD hO hR;simp only[Act.put,zsA,zsB,zsC] at hK ⊢;have e2:ρ 2=.pointer (some ⟨b,0,none⟩):=f2;have e3:ρ 3=.agg #[.int .i64 2,.string x,.int .i64 ((c:Int)+1)]:=f3;have e4:ρ 4=.int .i64 (off:Int):=f4;rw[e2,e3,e4] at hK ⊢;go_simp;go_at_call 248;refine HIT.out.mono ?_;rintro e W2 ⟨rfl,h1,h2⟩;exact hK _ _ trivial (by simp only[updB,if_true];exact⟨h1,h2⟩) (fun _ _=>rfl)
    refine ObsF.cons (fun ρ L W hR hI hL hD hO hF K hK=>?_) ?_
    ·skip
     have f5:=allF_get hF (j:=5) (by decide);clear hF hD hO hR;simp only[Act.put,zsA,zsB,zsC] at hK ⊢;have e5:ρ 5=.bool (!St.fullB its.length tx.length cuts.length false):=f5;rw[e5] at hK ⊢;go_simp;go_at_call 246;refine(mlimit_any _ _).mono ?_;rintro e W2 ⟨rfl,rfl⟩;exact hK _ _ trivial (by simpa [updB] using hI) (fun _ _=>rfl)
    refine ObsF.cons (fun ρ L W hR hI hL hD hO hF K hK=>?_) ?_
    ·skip
     have f6:=allF_get hF (j:=6) (by decide);clear hF hD hO hR;simp only[Act.put,zsA,zsB,zsC] at hK ⊢;have e6:ρ 6=.int .i64 (limE (!St.fullB its.length tx.length cuts.length false)):=f6;rw[e6] at hK ⊢;go_simp;refine hK _ _ trivial (by simpa [updB] using hI) (fun _ _=>rfl)
    exact ObsF.nil
   ·skip
    intro ρ L W hR hI hL hF;obtain⟨_,_,_,_,_,_,_,g7,_⟩:=hF;have g7:ρ 7=.int .i64 (limE (!St.fullB its.length tx.length cuts.length false)):=g7;rw[g7];clear g7 hR;rw[if_pos (hL 5 (by decide))] at hI;obtain⟨hba,hbl⟩:=hI;have HBL:=hid (Below.trans HB9.out (Below.trans ((Below.refl B W9).drew) hbl));have HBA:=hid hba;clear hba hbl hL;cases hfu:St.fullB its.length tx.length cuts.length false
    ·have HFU:=hid hfu
     clear hfu;go_wp2;go_ret;exact tg_item HST.out (by decide) HFU.out HBL.out (HBA.out HFU.out)
    ·have HFU:=hid hfu
     clear hfu;go_wp2;go_ret;exact tg_full HST.out (by decide) HFU.out HBL.out
 ·rcases St.snoc_cases op with rfl|⟨o1,o,rfl⟩
  ·
   have HST:=hid (show St.stepT (⟨.slice A3 ([]:List St.It).length c3,[],c⟩:Mo).op c 3 x.data.toList=none from rfl);simp only[List.length_nil] at g3';have z0:((0:Int)==0)=true:=rfl;clear hv;go_enter Tryz.func244,Tryz.ntmps244;go_wp2_with fail
   first|refine wp_region_under2 (by kernel_rfl) (by kernel_rfl) ?_|refine wp_region_under (by kernel_rfl) (by kernel_rfl) ?_
   repeat (go_big_quiet_step (first|(fail)))
   refine wpQuiet_nil ?_;rintro _ ⟨X,rfl⟩;go_wp2;go_ret;exact tg_none HST.out (Below.und (Below.refl _ _) hBw (by apply_rules[uUe,uUa,uUb,uUc,uUd]))
  ·
   obtain⟨m,hm⟩:∃ m,o1.length=m:=⟨_,rfl⟩;have hol:(o1++[o]).length=m+1:=by simp[hm]
   have ho3:=hv.2.2.2.2.2.1;simp only at ho3;rw[hol] at g3' ho3;obtain⟨g,rfl,hgB,hgl,hgc⟩:=own_cell ho3 (by omega);have hom:(o1++[o])[m]?=some o:=by rw[<- hm];simp
   have hcs:=cellsIt_at (o1++[o]) m (by rw[hol];omega);have hgm:(o1++[o])[m]'(by rw[hol];omega)=o:=Option.some.inj ((List.getElem?_eq_getElem (by rw[hol];omega)).symm.trans hom);rw[hgm] at hcs;have i1:=hgc _ _ hcs.2.1;have i2:=hgc _ _ hcs.2.2
   have hot:o.2.1.length<=4611686018427387904:=by
    have:tot (o1++[o])=tot o1+o.2.1.length:=tot_snoc o1 o
    omega
   obtain⟨ok,ot,oi⟩:=o;simp only at i1 i2 hot;haveI:LtW g w:=LtW.of hgl;have z0:(((m+1:Nat):Int)==0)=false:=by simp;omega
   have z0':((m:Int)+1==0)=false:=by simp;omega
   have z3:(m:Int)<((m+1:Nat):Int):=by omega
   have hmc:m+1<=c3:=by omega
   have hm1:m<=2000:=by omega
   have HOL:=hid hol;have HO3:=hid ho3;have HNM:=hid (fun W=>mname_any ot W (by omega));have HM:=hid hm;clear hv hcs hgc hom hgm hol ho3 hm;obtain⟨sb,hsb⟩:∃ sb:ByteArray,(⟨ot.toArray⟩:ByteArray)=sb:=⟨_,rfl⟩;obtain⟨nb,hnb⟩:∃ nb:ByteArray,(⟨(St.nameOf ot).toArray⟩:ByteArray)=nb:=⟨_,rfl⟩;rw[hsb,hnb] at HNM;rw[hsb] at i1;have hnl:nb.data.toList=St.nameOf ot:=by rw[<- hnb]
   clear hsb hnb;obtain⟨bq,hq⟩:∃ bq,(nb.toList != x.toList)=bq:=⟨_,rfl⟩
   have hst:St.stepT (⟨.slice (some ⟨g,0,none⟩) (m+1) c3,o1++[(ok,ot,oi)],c⟩:Mo).op c 3 x.data.toList=if bq then none else some (oi,o1,c):=by
    show St.stepT (o1++[(ok,ot,oi)]) c 3 x.data.toList=_
    unfold St.stepT;simp only[if_true,List.getLast?_append,List.getLast?_singleton,Option.some_or,List.dropLast_concat];cases bq
    ·rw[bne_eq_false_iff_eq,Lib.toList_data,Lib.toList_data,hnl] at hq
     rw[if_pos hq];rfl
    ·rw[bne_iff_ne,Lib.toList_data,Lib.toList_data,hnl] at hq
     rw[if_neg hq];rfl
   have HST:=hid hst;clear hst hnl;go_enter Tryz.func244,Tryz.ntmps244;go_wp2_with fail
   first|refine wp_region_under2 (by kernel_rfl) (by kernel_rfl) ?_|refine wp_region_under (by kernel_rfl) (by kernel_rfl) ?_
   repeat (go_big_quiet_step (first|(go_at_call 178;exact Calls.under_of (HNM.out _))))
   refine wpQuiet_nil ?_;rintro _ ⟨X,rfl⟩;have hI:Und (w.alloc (Obj.cells #[.int .i64 3,.string x,.int .i64 0] 66)) (under (w.alloc (Obj.cells #[.int .i64 3,.string x,.int .i64 0] 66)) X):=⟨X,rfl⟩;generalize under (w.alloc (Obj.cells #[.int .i64 3,.string x,.int .i64 0] 66)) X=W at *;have HU:=hid (((Und.refl w).alloc _).trans hI);cases bq;rotate_left 1
   ·have hqe:(nb.toList==x.toList)=false:=by simpa using hq
    have hqf:(!(nb.toList==x.toList))=true:=hq;simp only[hqf];clear hI;go_wp2;go_ret;exact tg_none HST.out (Below.und (Below.refl _ _) hBw HU.out)
   ·skip
    have hqe:(nb.toList==x.toList)=true:=by simpa using hq
    have hqf:(!(nb.toList==x.toList))=false:=hq;simp only[hqf];obtain⟨qa,_,qf3,_,hltb,_⟩:=(HV.out.und HU.out).at;clear qa;have q3:W.cell? ⟨b,3,none⟩=some (.slice (some ⟨g,0,none⟩) (m+1) c3):=(HU.out.cell (p:=⟨b,3,none⟩) hblt).trans g3';have q2:W.cell? ⟨g,m*3+2,none⟩=some (.int .i64 oi):=(HU.out.cell (p:=⟨g,m*3+2,none⟩) hgl).trans i2;have hbx:=(hI.below.block w.heap.size (by simp)).trans (heap_alloc_at w (Obj.cells #[.int .i64 3,.string x,.int .i64 0] 66) w.heap.size rfl);have x2:W.cell? ⟨w.heap.size,2,none⟩=some (.int .i64 0):=zcH hbx 2;have xf2:W.frozen? ⟨w.heap.size,2,none⟩=false:=zfH hbx 2;have x0':W.cell? ⟨w.heap.size,0,none⟩=some (.int .i64 3):=zcH hbx 0;have hbb:¬ b=w.heap.size:=by omega
    have hbb':¬ w.heap.size=b:=by omega
    haveI:LtW b W:=LtW.of hltb;haveI:LtW w.heap.size W:=LtW.of (lt_of_heap hbx);haveI:LtW g W:=LtW.of (Nat.lt_of_lt_of_le hgl HU.out.size);have HBX8:=hid hbx;have HU2:=hid (HU.out.setCell (p:=⟨w.heap.size,2,none⟩) (Nat.le_refl _) (.int .i64 oi));clear hI hbx;go_wp2_with fail;have hos:W.ownsRow B 66 3 (.slice (some ⟨g,0,none⟩) (m+1) c3) (m+1) (cellsIt (o1++[(ok,ot,oi)])):=own_und HU.out HO3.out
    have hot2:(cellsIt (o1++[(ok,ot,oi)])).take (m*3)=cellsIt o1:=by
     rw[cellsIt_snoc,List.take_left' (by rw[cells_len,HM.out])]
    have hsh:=own_shorter hos m (by omega);rw[hot2] at hsh
    have hBV9:BV ⟨.slice (some ⟨g,0,none⟩) m c3,o1,c⟩ ((W.setCell ⟨w.heap.size,2,none⟩ (.int .i64 oi)).setCell ⟨b,3,none⟩ (.slice (some ⟨g,0,none⟩) m c3)) B b v0 v1 v2 its tx cuts:=by
     refine BV.set3 (HV.out.und HU2.out) ?_ rfl;have:=own_set (b:=w.heap.size) (i:=2) (u:=.int .i64 oi) hsh (by simp[Value.ownBlock];omega)
     rw[HM.out];exact this
    have hbx9:((W.setCell ⟨w.heap.size,2,none⟩ (.int .i64 oi)).setCell ⟨b,3,none⟩ (.slice (some ⟨g,0,none⟩) m c3)).heap[w.heap.size]?=some (Obj.cells #[.int .i64 3,.string x,.int .i64 oi] 66):=by
     rw[heap_setCell_other _ _ _ _ (by show w.heap.size ≠ b;omega)];exact heap_setCell_same _ _ 2 _ _ _ HBX8.out
    have hbl9:Below B w ((W.setCell ⟨w.heap.size,2,none⟩ (.int .i64 oi)).setCell ⟨b,3,none⟩ (.slice (some ⟨g,0,none⟩) m c3)):=(Below.und (Below.refl _ _) hBw HU2.out).setCell (p:=⟨b,3,none⟩) hBb _;have hB9:B<=((W.setCell ⟨w.heap.size,2,none⟩ (.int .i64 oi)).setCell ⟨b,3,none⟩ (.slice (some ⟨g,0,none⟩) m c3)).heap.size:=Nat.le_trans hBw hbl9.size;have HV9:=hid hBV9;have HBX:=hid hbx9;have HB9:=hid hbl9;clear hBV9 hbx9 hbl9 hsh hot2 hos HU HU2 HBX8 x0' x2 xf2 q2 q3 qf3;generalize (W.setCell ⟨w.heap.size,2,none⟩ (.int .i64 oi)).setCell ⟨b,3,none⟩ (.slice (some ⟨g,0,none⟩) m c3)=W9 at *;go_wp2_with fail;have HIT:=hid (item_any W9.drew B b its tx cuts 3 oi x off (BAt.und ⟨_,_,_,HV9.out⟩ ((Und.refl W9).drew)) (by omega) (by omega) (by omega) hB9);have x0:W9.cell? ⟨w.heap.size,0,none⟩=some (.int .i64 3):=zcH HBX.out 0;have x1:W9.cell? ⟨w.heap.size,1,none⟩=some (.string x):=zcH HBX.out 1;have x2:W9.cell? ⟨w.heap.size,2,none⟩=some (.int .i64 oi):=zcH HBX.out 2;haveI:LtW w.heap.size W9:=LtW.of (lt_of_heap HBX.out);refine wp_region_facts (fun _ _=>True) (fun L W=>if L 5=true then (St.fullB its.length tx.length cuts.length false=false->BAt ⟨.slice (some ⟨g,0,none⟩) m c3,o1,c⟩ W B b (its++St.txt tx++[(3,x.data.toList,oi)]) [] (cuts++[off]))/\Below B W9.drew W else W=W9.drew) ([fun v _=>v=.pointer (some ⟨b,0,none⟩),fun v _=>v=.pointer (some ⟨b,0,none⟩),fun v _=>v=.pointer (some ⟨b,0,none⟩),fun v _=>v=.agg #[.int .i64 3,.string x,.int .i64 oi],fun v _=>v=.int .i64 (off:Int),fun v _=>v=.bool (!St.fullB its.length tx.length cuts.length false),fun v _=>v=.int .i64 (limE (!St.fullB its.length tx.length cuts.length false)),fun v _=>v=.int .i64 (limE (!St.fullB its.length tx.length cuts.length false))]) (fun _=>trivial) (fun _ _ _ _ _=>trivial) (by kernel_rfl) (by rfl) (by kernel_rfl) (by kernel_rfl) ?_ ?_ ?_ ?_ ?_;rotate_left 1
    ·skip
     intro ρ;simp only[putAll,Act.put,zsA,zsB,zsC,Nat.zero_add,Nat.reduceAdd];exact rfl
    ·skip
     simp
    ·skip
     refine ObsF.cons (fun ρ L W hR hI hL hD hO hF K hK=>?_) ?_
     ·skip
      clear hF hD hO hR;simp only[Act.put,zsA,zsB,zsC] at hK ⊢;go_simp;refine hK _ _ trivial (by simpa [updB] using hI) (fun _ _=>rfl)
     refine ObsF.cons (fun ρ L W hR hI hL hD hO hF K hK=>?_) ?_
     ·skip
      have f0:=allF_get hF (j:=0) (by decide);clear hF hD hO hR;simp only[Act.put,zsA,zsB,zsC] at hK ⊢;have e0:ρ 0=.pointer (some ⟨b,0,none⟩):=f0;rw[e0] at hK ⊢;go_simp;refine hK _ _ trivial (by simpa [updB] using hI) (fun _ _=>rfl)
     refine ObsF.cons (fun ρ L W hR hI hL hD hO hF K hK=>?_) ?_
     ·skip
      have f1:=allF_get hF (j:=1) (by decide);clear hF hD hO hR;simp only[Act.put,zsA,zsB,zsC] at hK ⊢;have e1:ρ 1=.pointer (some ⟨b,0,none⟩):=f1;rw[e1] at hK ⊢;go_simp;refine hK _ _ trivial (by simpa [updB] using hI) (fun _ _=>rfl)
     refine ObsF.cons (fun ρ L W hR hI hL hD hO hF K hK=>?_) ?_
     ·skip
      have hLc:L 5=false:=hD.not (p:=5) rfl (by decide) hL;rw[if_neg (by rw[hLc];decide)] at hI;subst hI;clear hF hD hO hR;simp only[Act.put,zsA,zsB,zsC] at hK ⊢;go_simp;refine hK _ _ trivial (by simp[updB,hLc]) (fun _ _=>rfl)
     refine ObsF.cons (fun ρ L W hR hI hL hD hO hF K hK=>?_) ?_
     ·skip
      clear hF hD hO hR;simp only[Act.put,zsA,zsB,zsC] at hK ⊢;go_simp;refine hK _ _ trivial (by simpa [updB] using hI) (fun _ _=>rfl)
     refine ObsF.cons (fun ρ L W hR hI hL hD hO hF K hK=>?_) ?_
     ·skip
      have f2:=allF_get hF (j:=2) (by decide);have f3:=allF_get hF (j:=3) (by decide);have f4:=allF_get hF (j:=4) (by decide);rw[if_neg (by rw[hL];decide)] at hI;subst hI;clear hF hD hO hR;simp only[Act.put,zsA,zsB,zsC] at hK ⊢;have e2:ρ 2=.pointer (some ⟨b,0,none⟩):=f2;have e3:ρ 3=.agg #[.int .i64 3,.string x,.int .i64 oi]:=f3;have e4:ρ 4=.int .i64 (off:Int):=f4;rw[e2,e3,e4] at hK ⊢;go_simp;go_at_call 248;refine HIT.out.mono ?_;rintro e W2 ⟨rfl,h1,h2⟩;exact hK _ _ trivial (by simp only[updB,if_true];exact⟨h1,h2⟩) (fun _ _=>rfl)
     refine ObsF.cons (fun ρ L W hR hI hL hD hO hF K hK=>?_) ?_
     ·skip
      have f5:=allF_get hF (j:=5) (by decide);clear hF hD hO hR;simp only[Act.put,zsA,zsB,zsC] at hK ⊢;have e5:ρ 5=.bool (!St.fullB its.length tx.length cuts.length false):=f5;rw[e5] at hK ⊢;go_simp;go_at_call 246;refine(mlimit_any _ _).mono ?_;rintro e W2 ⟨rfl,rfl⟩;exact hK _ _ trivial (by simpa [updB] using hI) (fun _ _=>rfl)
     refine ObsF.cons (fun ρ L W hR hI hL hD hO hF K hK=>?_) ?_
     ·skip
      have f6:=allF_get hF (j:=6) (by decide);clear hF hD hO hR;simp only[Act.put,zsA,zsB,zsC] at hK ⊢;have e6:ρ 6=.int .i64 (limE (!St.fullB its.length tx.length cuts.length false)):=f6;rw[e6] at hK ⊢;go_simp;refine hK _ _ trivial (by simpa [updB] using hI) (fun _ _=>rfl)
     exact ObsF.nil
    ·skip
     intro ρ L W hR hI hL hF;obtain⟨_,_,_,_,_,_,_,g7,_⟩:=hF;have g7:ρ 7=.int .i64 (limE (!St.fullB its.length tx.length cuts.length false)):=g7;rw[g7];clear g7 hR;rw[if_pos (hL 5 (by decide))] at hI;obtain⟨hba,hbl⟩:=hI;have HBL:=hid (Below.trans HB9.out (Below.trans ((Below.refl B W9).drew) hbl));have HBA:=hid hba;clear hba hbl hL;cases hfu:St.fullB its.length tx.length cuts.length false
     ·have HFU:=hid hfu
      clear hfu;go_wp2;go_ret;exact tg_item HST.out (by decide) HFU.out HBL.out (HBA.out HFU.out)
     ·have HFU:=hid hfu
      clear hfu;go_wp2;go_ret;exact tg_full HST.out (by decide) HFU.out HBL.out
 ·
  have HST:=hid (show St.stepT (⟨.slice A3 op.length c3,op,c⟩:Mo).op c 4 x.data.toList=some ((c:Int)+1,op,c+1) from rfl);clear hv;go_enter Tryz.func244,Tryz.ntmps244;go_wp2_with fail;have hu9:Und (w.setCell ⟨b,4,none⟩ (.int .i64 ((c:Int)+1))) ((w.setCell ⟨b,4,none⟩ (.int .i64 ((c:Int)+1))).alloc (Obj.cells #[.int .i64 4,.string x,.int .i64 ((c:Int)+1)] 66)):=(by apply_rules[uUe,uUa,uUb,uUc,uUd]);have HV9:=hid ((BV.set4 (c':=c+1) HV.out ((c:Int)+1) (by omega)).und hu9);have HBX:=hid (heap_alloc_at (w.setCell ⟨b,4,none⟩ (.int .i64 ((c:Int)+1))) (Obj.cells #[.int .i64 4,.string x,.int .i64 ((c:Int)+1)] 66) w.heap.size (by simp));have hB9:B<=((w.setCell ⟨b,4,none⟩ (.int .i64 ((c:Int)+1))).alloc (Obj.cells #[.int .i64 4,.string x,.int .i64 ((c:Int)+1)] 66)).heap.size:=by simp;omega
  have HB9:=hid ((((Below.refl B w).setCell (p:=⟨b,4,none⟩) hBb (.int .i64 ((c:Int)+1))).alloc (by simp;omega) (Obj.cells #[.int .i64 4,.string x,.int .i64 ((c:Int)+1)] 66)));clear hu9;generalize (w.setCell ⟨b,4,none⟩ (.int .i64 ((c:Int)+1))).alloc (Obj.cells #[.int .i64 4,.string x,.int .i64 ((c:Int)+1)] 66)=W9 at *;have HIT:=hid (item_any W9.drew B b its tx cuts 4 ((c:Int)+1) x off (BAt.und ⟨_,_,_,HV9.out⟩ ((Und.refl W9).drew)) (by omega) (by omega) (by omega) hB9);have x0:W9.cell? ⟨w.heap.size,0,none⟩=some (.int .i64 4):=zcH HBX.out 0;have x1:W9.cell? ⟨w.heap.size,1,none⟩=some (.string x):=zcH HBX.out 1;have x2:W9.cell? ⟨w.heap.size,2,none⟩=some (.int .i64 ((c:Int)+1)):=zcH HBX.out 2;haveI:LtW w.heap.size W9:=LtW.of (lt_of_heap HBX.out);refine wp_region_facts (fun _ _=>True) (fun L W=>if L 5=true then (St.fullB its.length tx.length cuts.length false=false->BAt ⟨.slice A3 op.length c3,op,c+1⟩ W B b (its++St.txt tx++[(4,x.data.toList,((c:Int)+1))]) [] (cuts++[off]))/\Below B W9.drew W else W=W9.drew) ([fun v _=>v=.pointer (some ⟨b,0,none⟩),fun v _=>v=.pointer (some ⟨b,0,none⟩),fun v _=>v=.pointer (some ⟨b,0,none⟩),fun v _=>v=.agg #[.int .i64 4,.string x,.int .i64 ((c:Int)+1)],fun v _=>v=.int .i64 (off:Int),fun v _=>v=.bool (!St.fullB its.length tx.length cuts.length false),fun v _=>v=.int .i64 (limE (!St.fullB its.length tx.length cuts.length false)),fun v _=>v=.int .i64 (limE (!St.fullB its.length tx.length cuts.length false))]) (fun _=>trivial) (fun _ _ _ _ _=>trivial) (by kernel_rfl) (by rfl) (by kernel_rfl) (by kernel_rfl) ?_ ?_ ?_ ?_ ?_;rotate_left 1
  ·skip
   intro ρ;simp only[putAll,Act.put,zsA,zsB,zsC,Nat.zero_add,Nat.reduceAdd];exact rfl
  ·skip
   simp
  ·skip
   refine ObsF.cons (fun ρ L W hR hI hL hD hO hF K hK=>?_) ?_
   ·skip
    clear hF hD hO hR;simp only[Act.put,zsA,zsB,zsC] at hK ⊢;go_simp;refine hK _ _ trivial (by simpa [updB] using hI) (fun _ _=>rfl)
   refine ObsF.cons (fun ρ L W hR hI hL hD hO hF K hK=>?_) ?_
   ·skip
    have f0:=allF_get hF (j:=0) (by decide);clear hF hD hO hR;simp only[Act.put,zsA,zsB,zsC] at hK ⊢;have e0:ρ 0=.pointer (some ⟨b,0,none⟩):=f0;rw[e0] at hK ⊢;go_simp;refine hK _ _ trivial (by simpa [updB] using hI) (fun _ _=>rfl)
   refine ObsF.cons (fun ρ L W hR hI hL hD hO hF K hK=>?_) ?_
   ·skip
    have f1:=allF_get hF (j:=1) (by decide);clear hF hD hO hR;simp only[Act.put,zsA,zsB,zsC] at hK ⊢;have e1:ρ 1=.pointer (some ⟨b,0,none⟩):=f1;rw[e1] at hK ⊢;go_simp;refine hK _ _ trivial (by simpa [updB] using hI) (fun _ _=>rfl)
   refine ObsF.cons (fun ρ L W hR hI hL hD hO hF K hK=>?_) ?_
   ·skip
    have hLc:L 5=false:=hD.not (p:=5) rfl (by decide) hL;rw[if_neg (by rw[hLc];decide)] at hI;subst hI;clear hF hD hO hR;simp only[Act.put,zsA,zsB,zsC] at hK ⊢;go_simp;refine hK _ _ trivial (by simp[updB,hLc]) (fun _ _=>rfl)
   refine ObsF.cons (fun ρ L W hR hI hL hD hO hF K hK=>?_) ?_
   ·skip
    clear hF hD hO hR;simp only[Act.put,zsA,zsB,zsC] at hK ⊢;go_simp;refine hK _ _ trivial (by simpa [updB] using hI) (fun _ _=>rfl)
   refine ObsF.cons (fun ρ L W hR hI hL hD hO hF K hK=>?_) ?_
   ·skip
    have f2:=allF_get hF (j:=2) (by decide);have f3:=allF_get hF (j:=3) (by decide);have f4:=allF_get hF (j:=4) (by decide);rw[if_neg (by rw[hL];decide)] at hI;subst hI;clear hF hD hO hR;simp only[Act.put,zsA,zsB,zsC] at hK ⊢;have e2:ρ 2=.pointer (some ⟨b,0,none⟩):=f2;have e3:ρ 3=.agg #[.int .i64 4,.string x,.int .i64 ((c:Int)+1)]:=f3;have e4:ρ 4=.int .i64 (off:Int):=f4;rw[e2,e3,e4] at hK ⊢;go_simp;go_at_call 248;refine HIT.out.mono ?_;rintro e W2 ⟨rfl,h1,h2⟩;exact hK _ _ trivial (by simp only[updB,if_true];exact⟨h1,h2⟩) (fun _ _=>rfl)
   refine ObsF.cons (fun ρ L W hR hI hL hD hO hF K hK=>?_) ?_
   ·skip
    have f5:=allF_get hF (j:=5) (by decide);clear hF hD hO hR;simp only[Act.put,zsA,zsB,zsC] at hK ⊢;have e5:ρ 5=.bool (!St.fullB its.length tx.length cuts.length false):=f5;rw[e5] at hK ⊢;go_simp;go_at_call 246;refine(mlimit_any _ _).mono ?_;rintro e W2 ⟨rfl,rfl⟩;exact hK _ _ trivial (by simpa [updB] using hI) (fun _ _=>rfl)
   refine ObsF.cons (fun ρ L W hR hI hL hD hO hF K hK=>?_) ?_
   ·skip
    have f6:=allF_get hF (j:=6) (by decide);clear hF hD hO hR;simp only[Act.put,zsA,zsB,zsC] at hK ⊢;have e6:ρ 6=.int .i64 (limE (!St.fullB its.length tx.length cuts.length false)):=f6;rw[e6] at hK ⊢;go_simp;refine hK _ _ trivial (by simpa [updB] using hI) (fun _ _=>rfl)
   exact ObsF.nil
  ·skip
   intro ρ L W hR hI hL hF;obtain⟨_,_,_,_,_,_,_,g7,_⟩:=hF;have g7:ρ 7=.int .i64 (limE (!St.fullB its.length tx.length cuts.length false)):=g7;rw[g7];clear g7 hR;rw[if_pos (hL 5 (by decide))] at hI;obtain⟨hba,hbl⟩:=hI;have HBL:=hid (Below.trans HB9.out (Below.trans ((Below.refl B W9).drew) hbl));have HBA:=hid hba;clear hba hbl hL;cases hfu:St.fullB its.length tx.length cuts.length false
   ·have HFU:=hid hfu
    clear hfu;go_wp2;go_ret;exact tg_item HST.out (by decide) HFU.out HBL.out (HBA.out HFU.out)
   ·have HFU:=hid hfu
    clear hfu;go_wp2;go_ret;exact tg_full HST.out (by decide) HFU.out HBL.out
end
section
def MElEnd(mo:Mo)(w:World)(B b:Nat)(its:List St.It)(tx:List UInt8)(cuts:List Nat)(l:List UInt8)(off:Nat)(e:Ending)(w':World):Prop:=
 Below B w w'/\match St.markL l with
  | none=>∃ m:Int,e=.returned (.tuple #[.int .i64 m,.int .i64 2])
  | some (k,t,n)=>match St.stepT mo.op mo.c k t with
   | none=>∃ m:Int,e=.returned (.tuple #[.int .i64 m,.int .i64 7])
   | some (i,op',c')=>if 512<(St.addI (its++St.txt tx) (k,t,i)).length∨1024<=cuts.length then ∃ m:Int,e=.returned (.tuple #[.int .i64 m,.int .i64 3]) else
    e=.returned (.tuple #[.int .i64 n,.int .i64 0])/\∃ v' its' tx',BAt ⟨v',op',c'⟩ w' B b its' tx' (cuts++[off])/\St.NoTxt its'/\its'++St.txt tx'=St.addI (its++St.txt tx) (k,t,i)/\tx'.length<=cuts.length+1
section
variable {mo:Mo} {w:World} {B b:Nat} {its:List St.It} {tx:List UInt8} {cuts:List Nat} {l:List UInt8} {off:Nat} {w':World} {n:Nat} {c:UInt8} {t:List UInt8} {m:Int}
theorem mel_err(h:St.markL l=none)(hb:Below B w w'):MElEnd mo w B b its tx cuts l off (.returned (.tuple #[.int .i64 m,.int .i64 2])) w':=by
 refine⟨hb,?_⟩;rw[h];exact⟨m,rfl⟩
theorem mel_full(h:St.markL l=some (1,[c],n))(hN:St.NoTxt its)(hf:St.fullB its.length tx.length cuts.length true=true)(hb:Below B w w'):MElEnd mo w B b its tx cuts l off (.returned (.tuple #[.int .i64 m,.int .i64 3])) w':=by
 refine⟨hb,?_⟩;rw[h];simp only[St.stepT];rw[if_neg (by decide),if_neg (by decide),if_neg (by decide)];simp only;rw[if_pos ((St.full_byte hN c cuts.length).2 hf)];exact⟨m,rfl⟩
theorem mel_byte(h:St.markL l=some (1,[c],n))(hN:St.NoTxt its)(hf:St.fullB its.length tx.length cuts.length true=false)(hb:Below B w w')
  (hB:BAt mo w' B b its (tx++[c]) (cuts++[off])) (ht:tx.length<=cuts.length) (hm:m=(n:Int)):MElEnd mo w B b its tx cuts l off (.returned (.tuple #[.int .i64 m,.int .i64 0])) w':=by
 refine⟨hb,?_⟩;rw[h];simp only[St.stepT];rw[if_neg (by decide),if_neg (by decide),if_neg (by decide)];simp only;rw[if_neg (fun h2=>by rw[(St.full_byte hN c cuts.length).1 h2] at hf;cases hf),hm];exact⟨rfl,mo.v,its,tx++[c],hB,hN,(St.add_byte hN c).symm,by simp;omega⟩
theorem mel_full5(h:St.markL l=some (5,t,n))(hf:St.fullB its.length tx.length cuts.length false=true)(hb:Below B w w'):MElEnd mo w B b its tx cuts l off (.returned (.tuple #[.int .i64 m,.int .i64 3])) w':=by
 refine⟨hb,?_⟩;rw[h];simp only[St.stepT];rw[if_neg (by decide),if_neg (by decide),if_neg (by decide)];simp only;rw[if_pos ((St.full_item 5 t cuts.length (by decide)).2 hf)];exact⟨m,rfl⟩
theorem mel_item(h:St.markL l=some (5,t,n))(hf:St.fullB its.length tx.length cuts.length false=false)(hb:Below B w w')
  (hB:BAt mo w' B b (its++St.txt tx++[(5,t,0)]) [] (cuts++[off])) (hm:m=(n:Int)):MElEnd mo w B b its tx cuts l off (.returned (.tuple #[.int .i64 m,.int .i64 0])) w':=by
 refine⟨hb,?_⟩;rw[h];simp only[St.stepT];rw[if_neg (by decide),if_neg (by decide),if_neg (by decide)];simp only;rw[if_neg (fun h2=>by rw[(St.full_item 5 t cuts.length (by decide)).1 h2] at hf;cases hf),hm];exact⟨rfl,mo.v,_,[],hB,St.noTxt_snoc _ 5 t 0 (by decide),by rw[St.add_item 5 t (by decide)];simp[St.txt],by simp⟩
theorem mel_tag{w2:World}{k:Int}{e:Ending}(h:St.markL l=some (k,t,n))(hk:k=2∨k=3∨k=4)(hm:m=(n:Int))(hw:Below B w w2)(ht:TgEnd mo w2 B b its tx cuts k t off e w'):∃ er:Int,e=.returned (.int .i64 er)/\MElEnd mo w B b its tx cuts l off (.returned (.tuple #[.int .i64 m,.int .i64 er])) w':=by
 obtain⟨hb,hq⟩:=ht;have hk1:k ≠ 1:=by omega
 unfold MElEnd;rw[h];simp only;cases hs:St.stepT mo.op mo.c k t with
 | none=>rw[hs] at hq;exact⟨7,hq,hw.trans hb,m,rfl⟩
 | some y=>
  obtain⟨i,op',c'⟩:=y;rw[hs] at hq;simp only at hq ⊢
  split at hq
  ·rename_i hf
   exact⟨3,hq,hw.trans hb,by rw[if_pos hf];exact⟨m,rfl⟩⟩
  ·rename_i hf
   obtain⟨he,v',hB⟩:=hq;refine⟨0,he,hw.trans hb,?_⟩;rw[if_neg hf];refine⟨by rw[hm],v',_,[],hB,St.noTxt_snoc _ k t i hk1,?_,by simp⟩;unfold St.addI;rw[if_neg hk1];simp[St.txt]
end
theorem element_any(mo:Mo)(w:World)(B b:Nat)(its:List St.It)(tx:List UInt8)(cuts:List Nat)(raw:ByteArray)(a:Nat)(h:BAt mo w B b its tx cuts)(hN:St.NoTxt its)(h1:its.length<=512)(h2:cuts.length<=1024)(h3:tx.length<=cuts.length)(h4:mo.op.length<=2000)(h5:mo.c<=2000)(h6:tot mo.op<=4611686018427387904)(hBw:B<=w.heap.size)
  (ha:a<raw.size) (hr:raw.size<=4611686018427387904) :
  Calls Tryz.prog 216 #[.pointer (some ⟨b,0,none⟩),.string raw,.int .i64 a] w (MElEnd mo w B b its tx cuts (raw.data.toList.drop a) a):=by
 obtain⟨s,hE⟩:∃ s,raw.extract a raw.size=s:=⟨_,rfl⟩;have hsz:s.size=raw.size-a:=by rw[<- hE];simp
 have hs0:0<s.size:=by omega
 have hl:s.data.toList=raw.data.toList.drop a:=by rw[<- hE];simp;exact List.take_of_length_le (by simp)
 rw[<- hl];have hcr:s.data.toList=s[0] :: s.data.toList.drop 1:=St.list_zero s hs0;have ha1:(a:Int)<=raw.size:=by omega
 have ha2:¬ raw.size<a:=by omega
 have hN':=hid hN;obtain⟨v0,v1,v2,hv⟩:=h;have hbl:=hv.2.1;have hblt:b<w.heap.size:=lt_of_heap hbl;have H:Hid (BAt mo w B b its tx cuts):=hid ⟨v0,v1,v2,hv⟩;have hss:s.size<=4611686018427387904:=by omega
 clear hl hv hbl hsz hN
 by_cases c60:s[0].toNat=60
 ·have hsl:=St.mark_60 (r:=s.data.toList.drop 1) c60
  rw[<- hcr] at hsl;have e60:((s[0].toNat:Int)==60)=true:=by simp;omega
  have HTG:=hid (mtag_any s w hss hs0 c60);unfold St.inlL at hsl;clear hcr c60;cases hq:St.tagL s.data.toList with
  | none=>
   rw[hq] at hsl HTG;have HSL:=hid hsl;clear hsl hq;go_enter Tryz.func216,Tryz.ntmps216;go_wp2_with fail;refine HTG.out.mono ?_;rintro e w2 ⟨hu,k,x,m,rfl⟩;have HU:=hid hu;clear hu HTG;go_wp2;go_ret2;exact mel_err HSL.out (Below.und (Below.refl _ _) hBw (HU.out.alloc _))
  | some q=>
   obtain⟨k,t,n⟩:=q;rw[hq] at hsl HTG;simp only at hsl;have hkk:=(St.tag_len hq).1
   have htl:t.length<=4611686018427387904:=by
    have:=St.tag_len hq
    rw[St.len_list] at this;omega
   have HNM:=hid (fun W=>mname_any t W htl);cases hb:St.blockL (St.nameOf t)
   ·rw[hb] at hsl
    simp only[Bool.false_eq_true,if_false] at hsl;have HIB:=hid (fun W=>misblock_any ⟨(St.nameOf t).toArray⟩ W);rw[show St.blockL (⟨(St.nameOf t).toArray⟩:ByteArray).data.toList=false from hb] at HIB;have HSL:=hid hsl;obtain⟨tb,htb⟩:∃ tb:ByteArray,(⟨t.toArray⟩:ByteArray)=tb:=⟨_,rfl⟩;obtain⟨nb,hnb⟩:∃ nb:ByteArray,(⟨(St.nameOf t).toArray⟩:ByteArray)=nb:=⟨_,rfl⟩;have htbl:tb.data.toList=t:=by rw[<- htb]
    have htbs:tb.size<=4611686018427387904:=by rw[<- St.len_list,htbl];exact htl
    have HTE:=hid (show ∀ W',TagEnd (some (k,t,n)) w (.returned (.tuple #[.agg #[.int .i64 k,.string tb,.int .i64 0],.int .i64 n,.bool true])) W'->Und w W' from fun W' h=>h.1);rw[htb,hnb] at HNM;rw[hnb] at HIB;clear hsl hq hb hnb;go_enter Tryz.func216,Tryz.ntmps216;go_wp2_with fail;refine HTG.out.mono ?_;rintro e w2 ⟨hu,he⟩;simp only at he;rw[htb] at he;subst he;have HU:=hid hu;clear hu HTG HTE;go_wp2_with fail;refine(HNM.out _).mono ?_;rintro e w3 ⟨rfl,hu3⟩;have HU3:=hid (HU.out.trans (Und.trans ((by apply_rules[uUe,uUa,uUb,uUc,uUd])) hu3));have hbx:=(hu3.below.block w2.heap.size (by simp)).trans (heap_alloc_at w2 (.cells #[.int .i64 k,.string tb,.int .i64 0] 66) w2.heap.size rfl);have x0:w3.cell? ⟨w2.heap.size,0,none⟩=some (.int .i64 k):=zcH hbx 0;have x1:w3.cell? ⟨w2.heap.size,1,none⟩=some (.string tb):=zcH hbx 1;have x2:w3.cell? ⟨w2.heap.size,2,none⟩=some (.int .i64 0):=zcH hbx 2;haveI:LtW w2.heap.size w3:=LtW.of (lt_of_heap hbx);clear hu3 hbx HU;go_wp2_with fail;refine(HIB.out _).mono ?_;rintro e w4 ⟨rfl,rfl⟩;have htg:=tagged_any mo w3 B b its tx cuts k tb a (H.out.und HU3.out) (by omega) h1 h2 h3 h4 h5 h6 (Nat.le_trans hBw HU3.out.size) htbs;rw[htbl] at htg;have HTGD:=hid htg;clear htg;go_wp2_with fail;refine HTGD.out.mono ?_;intro e w5 hte;obtain⟨er,rfl,hend⟩:=mel_tag (w:=w) (m:=(n:Int)) HSL.out (by omega) rfl (Below.und (Below.refl _ _) hBw HU3.out) hte;have HEND:=hid hend;clear hend hte x0 x1 x2;go_wp2;go_ret2;exact HEND.out
   ·rw[hb] at hsl
    simp only[if_true] at hsl;have HIB:=hid (fun W=>misblock_any ⟨(St.nameOf t).toArray⟩ W);rw[show St.blockL (⟨(St.nameOf t).toArray⟩:ByteArray).data.toList=true from hb] at HIB;have HSL:=hid hsl;obtain⟨tb,htb⟩:∃ tb:ByteArray,(⟨t.toArray⟩:ByteArray)=tb:=⟨_,rfl⟩;obtain⟨nb,hnb⟩:∃ nb:ByteArray,(⟨(St.nameOf t).toArray⟩:ByteArray)=nb:=⟨_,rfl⟩;rw[htb,hnb] at HNM;rw[hnb] at HIB;clear hsl hq hb hnb;go_enter Tryz.func216,Tryz.ntmps216;go_wp2_with fail;refine HTG.out.mono ?_;rintro e w2 ⟨hu,he⟩;simp only at he;rw[htb] at he;subst he;have HU:=hid hu;clear hu HTG;go_wp2_with fail;refine(HNM.out _).mono ?_;rintro e w3 ⟨rfl,hu3⟩;have HU3:=hid (HU.out.trans (Und.trans ((by apply_rules[uUe,uUa,uUb,uUc,uUd])) hu3));clear hu3 HU;go_wp2_with fail;refine(HIB.out _).mono ?_;rintro e w4 ⟨rfl,rfl⟩;go_wp2;go_ret2;exact mel_err HSL.out (Below.und (Below.refl _ _) hBw HU3.out)
 have e60:((s[0].toNat:Int)==60)=false:=by simp;omega
 by_cases c38:s[0].toNat=38
 ·have hsl:=St.mark_38 (r:=s.data.toList.drop 1) c38
  rw[<- hcr] at hsl;have e38:((s[0].toNat:Int)==38)=true:=by simp;omega
  have HRF:=hid (fun W=>mref_any s W (by omega));clear hcr c38 c60;unfold refV at HRF;cases hq:St.refL s.data.toList with
  | none=>
   rw[hq] at hsl HRF;have HSL:=hid hsl;clear hsl hq;go_enter Tryz.func216,Tryz.ntmps216;go_wp2_with fail;refine(HRF.out _).mono ?_;rintro e w2 ⟨rfl,rfl⟩;go_wp2;go_ret2;exact mel_err HSL.out (Below.refl _ _)
  | some q=>
   obtain⟨k,t,n⟩:=q;obtain⟨rfl,_,_,ht1⟩:=St.ref_len hq
   obtain⟨c,rfl⟩:∃ c,t=[c]:=by
    match t,ht1 with
    | [c],_=>exact⟨c,rfl⟩
   rw[hq] at hsl HRF;have HSL:=hid hsl;have HRF2:Hid (∀ W,Calls Tryz.prog 245 #[.string s] W fun e w'=>e=.returned (.tuple #[.int .u8 (c.toNat:Int),.int .i64 n,.bool true])/\W=w'):=HRF;have HBY:=hid (byte_any w B b its tx cuts c a H.out (by omega) (by omega) (by omega) hBw);clear hsl hq HRF;go_enter Tryz.func216,Tryz.ntmps216;go_wp2_with fail;refine(HRF2.out _).mono ?_;rintro e w2 ⟨rfl,rfl⟩;go_wp2_with fail;refine HBY.out.mono ?_;rintro e w2 ⟨rfl,hba,hbl⟩;have HBA:=hid hba;have HBL:=hid hbl;clear hba hbl;go_wp2_with fail;refine(mlimit_any _ _).mono ?_;rintro e w3 ⟨rfl,rfl⟩;cases hfu:St.fullB its.length tx.length cuts.length true
   ·have HFU:=hid hfu
    clear hfu;go_wp2;go_ret2;exact mel_byte HSL.out hN'.out HFU.out HBL.out (HBA.out HFU.out) h3 rfl
   ·have HFU:=hid hfu
    clear hfu;go_wp2;go_ret2;exact mel_full HSL.out hN'.out HFU.out HBL.out
 have e38:((s[0].toNat:Int)==38)=false:=by simp;omega
 by_cases c123:s[0].toNat=123
 ·have hsl:=St.mark_123 (r:=s.data.toList.drop 1) c123
  rw[<- hcr] at hsl;have e123:((s[0].toNat:Int)==123)=true:=by simp;omega
  have hix:=fun W=>Tryz.strings_IndexByte s 125 W
  have h125:(125:Int).toNat.toUInt8=125:=rfl;rw[h125,hcr] at hix;rcases St.slot_of (r:=s.data.toList.drop 1) c123 with ⟨hi,hs⟩|⟨n,hi,hn,htw,hs⟩
  ·rw[hi] at hix
   rw[<- hcr] at hs;rw[hs] at hsl;have HSL:=hid hsl;have HIX:=hid hix;clear hsl hcr hix hi hs h125 c60 c38 c123;go_enter Tryz.func216,Tryz.ntmps216;go_wp2_with fail;refine(HIX.out _).mono ?_;rintro e w1 ⟨rfl,hw1⟩;obtain rfl:w=w1:=hw1.symm;clear hw1;go_wp2;go_ret2;exact mel_err HSL.out (Below.refl _ _)
  ·rw[hi] at hix
   have hns:n+1<s.size:=by rw[<- hcr] at hn;simpa using hn
   obtain⟨x,hX⟩:∃ x,s.extract 1 (n+1)=x:=⟨_,rfl⟩;have hxl:x.data.toList=(s.data.toList.drop 1).take n:=by rw[<- hX];simp
   have hxs:x.size<=s.size:=by rw[<- hX];simp;omega
   have hxl2:x.data.toList.length=n:=by rw[hxl];simp;omega
   have hnm:=fun W=>isname_any x W (by omega)
   rw[<- hcr,<- hxl] at hs;have z1:(1:Int)<=(n:Int)+1:=by omega
   have z2:(n:Int)+1<=s.size:=by omega
   have z3:¬ (n:Int)+1<0:=by omega
   rw[show (((n+1:Nat):Int))=(n:Int)+1 by omega] at hix;cases hnb:St.isNameL x.data.toList
   ·rw[hnb] at hs hnm
    simp only[Bool.false_eq_true,if_false] at hs;rw[hs] at hsl;have HSL:=hid hsl;have HIX:=hid hix;have HNM:=hid hnm;clear hsl hcr hix hi hs h125 hn htw hnm hnb hxl hxl2 c60 c38 c123;go_enter Tryz.func216,Tryz.ntmps216;go_wp2_with fail;refine(HIX.out _).mono ?_;rintro e w1 ⟨rfl,hw1⟩;obtain rfl:w=w1:=hw1.symm;clear hw1;go_wp2_with fail;refine(HNM.out _).mono ?_;rintro e w' ⟨rfl,rfl⟩;go_wp2;go_ret2;exact mel_err HSL.out (Below.refl _ _)
   ·rw[hnb] at hs hnm
    simp only[if_true] at hs;rw[hs] at hsl;simp only[Option.map_some] at hsl;have HSL:=hid hsl;have HIX:=hid hix;have HNM:=hid hnm;have hw2:IntKind.i64.wrap ((n:Int)+1+1)=(n:Int)+1+1:=IntWalk.i64_in _ (by omega);have HIT:=hid (item_any w.drew B b its tx cuts 5 0 x a (H.out.und ((Und.refl w).drew)) (by omega) (by omega) (by omega) hBw);clear hsl hcr hix hi hs h125 hn htw hnm hnb hxl c60 c38 c123;go_enter Tryz.func216,Tryz.ntmps216;go_wp2_with fail;refine(HIX.out _).mono ?_;rintro e w1 ⟨rfl,hw1⟩;obtain rfl:w=w1:=hw1.symm;clear hw1;go_wp2_with fail;refine(HNM.out _).mono ?_;rintro e w' ⟨rfl,rfl⟩;go_wp2_with fail;refine wp_region_facts (fun _ _=>True) (fun L W=>if L 10=true then (St.fullB its.length tx.length cuts.length false=false->BAt mo W B b (its++St.txt tx++[(5,x.data.toList,0)]) [] (cuts++[a]))/\Below B w.drew W else W=w.drew) ([fun v _=>v=.int .i64 ((n:Int)+1),fun v _=>v=.int .i64 ((n:Int)+1+1),fun v _=>v=.pointer (some ⟨b,0,none⟩),fun v _=>v=.pointer (some ⟨b,0,none⟩),fun v _=>v=.pointer (some ⟨b,0,none⟩),fun v _=>v=.string s,fun v _=>v=.int .i64 ((n:Int)+1),fun v _=>v=.string x,fun v _=>v=.agg #[.int .i64 5,.string x,.int .i64 0],fun v _=>v=.int .i64 (a:Int),fun v _=>v=.bool (!St.fullB its.length tx.length cuts.length false),fun v _=>v=.int .i64 (limE (!St.fullB its.length tx.length cuts.length false)),fun v _=>v=.int .i64 ((n:Int)+1+1),fun v _=>v=.int .i64 (limE (!St.fullB its.length tx.length cuts.length false))]) (fun _=>trivial) (fun _ _ _ _ _=>trivial) (by kernel_rfl) (by rfl) (by kernel_rfl) (by kernel_rfl) ?_ ?_ ?_ ?_ ?_;rotate_left 1
    ·skip
     intro ρ;simp only[putAll,Act.put,zsA,zsB,zsC,Nat.zero_add,Nat.reduceAdd];exact rfl
    ·skip
     simp
    ·skip
     refine ObsF.cons (fun ρ L W hR hI hL hD hO hF K hK=>?_) ?_
     ·skip
      clear hF hD hO hR;simp only[Act.put,zsA,zsB,zsC] at hK ⊢;go_simp;refine hK _ _ trivial (by simpa [updB] using hI) (fun _ _=>rfl)
     refine ObsF.cons (fun ρ L W hR hI hL hD hO hF K hK=>?_) ?_
     ·skip
      have f0:=allF_get hF (j:=0) (by decide);clear hF hD hO hR;simp only[Act.put,zsA,zsB,zsC] at hK ⊢;have e0:ρ 0=.int .i64 ((n:Int)+1):=f0;rw[e0] at hK ⊢;go_simp;refine hK _ _ trivial (by simpa [updB] using hI) (fun _ _=>rfl)
     refine ObsF.cons (fun ρ L W hR hI hL hD hO hF K hK=>?_) ?_
     ·skip
      clear hF hD hO hR;simp only[Act.put,zsA,zsB,zsC] at hK ⊢;go_simp;refine hK _ _ trivial (by simpa [updB] using hI) (fun _ _=>rfl)
     refine ObsF.cons (fun ρ L W hR hI hL hD hO hF K hK=>?_) ?_
     ·skip
      have f2:=allF_get hF (j:=2) (by decide);clear hF hD hO hR;simp only[Act.put,zsA,zsB,zsC] at hK ⊢;have e2:ρ 2=.pointer (some ⟨b,0,none⟩):=f2;rw[e2] at hK ⊢;go_simp;refine hK _ _ trivial (by simpa [updB] using hI) (fun _ _=>rfl)
     refine ObsF.cons (fun ρ L W hR hI hL hD hO hF K hK=>?_) ?_
     ·skip
      have f3:=allF_get hF (j:=3) (by decide);clear hF hD hO hR;simp only[Act.put,zsA,zsB,zsC] at hK ⊢;have e3:ρ 3=.pointer (some ⟨b,0,none⟩):=f3;rw[e3] at hK ⊢;go_simp;refine hK _ _ trivial (by simpa [updB] using hI) (fun _ _=>rfl)
     refine ObsF.cons (fun ρ L W hR hI hL hD hO hF K hK=>?_) ?_
     ·skip
      clear hF hD hO hR;simp only[Act.put,zsA,zsB,zsC] at hK ⊢;go_simp;refine hK _ _ trivial (by simpa [updB] using hI) (fun _ _=>rfl)
     refine ObsF.cons (fun ρ L W hR hI hL hD hO hF K hK=>?_) ?_
     ·skip
      clear hF hD hO hR;simp only[Act.put,zsA,zsB,zsC] at hK ⊢;go_simp;refine hK _ _ trivial (by simpa [updB] using hI) (fun _ _=>rfl)
     refine ObsF.cons (fun ρ L W hR hI hL hD hO hF K hK=>?_) ?_
     ·skip
      have f5:=allF_get hF (j:=5) (by decide);have f6:=allF_get hF (j:=6) (by decide);clear hF hD hO hR;simp only[Act.put,zsA,zsB,zsC] at hK ⊢;have e5:ρ 5=.string s:=f5;have e6:ρ 6=.int .i64 ((n:Int)+1):=f6;rw[e5,e6] at hK ⊢;go_simp;refine hK _ _ trivial (by simpa [updB] using hI) (fun _ _=>rfl)
     refine ObsF.cons (fun ρ L W hR hI hL hD hO hF K hK=>?_) ?_
     ·skip
      have f7:=allF_get hF (j:=7) (by decide);clear hF hD hO hR;simp only[Act.put,zsA,zsB,zsC] at hK ⊢;have e7:ρ 7=.string x:=f7;rw[e7] at hK ⊢;go_simp;refine hK _ _ trivial (by simpa [updB] using hI) (fun _ _=>rfl)
     refine ObsF.cons (fun ρ L W hR hI hL hD hO hF K hK=>?_) ?_
     ·skip
      clear hF hD hO hR;simp only[Act.put,zsA,zsB,zsC] at hK ⊢;go_simp;refine hK _ _ trivial (by simpa [updB] using hI) (fun _ _=>rfl)
     refine ObsF.cons (fun ρ L W hR hI hL hD hO hF K hK=>?_) ?_
     ·skip
      have f4:=allF_get hF (j:=4) (by decide);have f8:=allF_get hF (j:=8) (by decide);have f9:=allF_get hF (j:=9) (by decide);rw[if_neg (by rw[hL];decide)] at hI;subst hI;clear hF hD hO hR;simp only[Act.put,zsA,zsB,zsC] at hK ⊢;have e4:ρ 4=.pointer (some ⟨b,0,none⟩):=f4;have e8:ρ 8=.agg #[.int .i64 5,.string x,.int .i64 0]:=f8;have e9:ρ 9=.int .i64 (a:Int):=f9;rw[e4,e8,e9] at hK ⊢;go_simp;go_at_call 248;refine HIT.out.mono ?_;rintro e W2 ⟨rfl,h1,h2⟩;exact hK _ _ trivial (by simp only[updB,if_true];exact⟨h1,h2⟩) (fun _ _=>rfl)
     refine ObsF.cons (fun ρ L W hR hI hL hD hO hF K hK=>?_) ?_
     ·skip
      have f10:=allF_get hF (j:=10) (by decide);clear hF hD hO hR;simp only[Act.put,zsA,zsB,zsC] at hK ⊢;have e10:ρ 10=.bool (!St.fullB its.length tx.length cuts.length false):=f10;rw[e10] at hK ⊢;go_simp;go_at_call 246;refine(mlimit_any _ _).mono ?_;rintro e W2 ⟨rfl,rfl⟩;exact hK _ _ trivial (by simpa [updB] using hI) (fun _ _=>rfl)
     refine ObsF.cons (fun ρ L W hR hI hL hD hO hF K hK=>?_) ?_
     ·skip
      have f1:=allF_get hF (j:=1) (by decide);clear hF hD hO hR;simp only[Act.put,zsA,zsB,zsC] at hK ⊢;have e1:ρ 1=.int .i64 ((n:Int)+1+1):=f1;rw[e1] at hK ⊢;go_simp;refine hK _ _ trivial (by simpa [updB] using hI) (fun _ _=>rfl)
     refine ObsF.cons (fun ρ L W hR hI hL hD hO hF K hK=>?_) ?_
     ·skip
      have f11:=allF_get hF (j:=11) (by decide);clear hF hD hO hR;simp only[Act.put,zsA,zsB,zsC] at hK ⊢;have e11:ρ 11=.int .i64 (limE (!St.fullB its.length tx.length cuts.length false)):=f11;rw[e11] at hK ⊢;go_simp;refine hK _ _ trivial (by simpa [updB] using hI) (fun _ _=>rfl)
     exact ObsF.nil
    ·skip
     intro ρ L W hR hI hL hF;obtain⟨_,_,_,_,_,_,_,_,_,_,_,_,g12,g13,_⟩:=hF;have g12:ρ 12=.int .i64 ((n:Int)+1+1):=g12;have g13:ρ 13=.int .i64 (limE (!St.fullB its.length tx.length cuts.length false)):=g13;rw[g12,g13];clear g12 g13 hR;rw[if_pos (hL 10 (by decide))] at hI;obtain⟨hba,hbl⟩:=hI;have HBL:=hid (Below.trans ((Below.refl B w).drew) hbl);have HBA:=hid hba;clear hba hbl hL;cases hfu:St.fullB its.length tx.length cuts.length false
     ·have HFU:=hid hfu
      clear hfu;go_wp2;go_ret2;exact mel_item HSL.out HFU.out HBL.out (HBA.out HFU.out) (by omega)
     ·have HFU:=hid hfu
      clear hfu;go_wp2;go_ret2;exact mel_full5 HSL.out HFU.out HBL.out
 have e123:((s[0].toNat:Int)==123)=false:=by simp;omega
 have hsl:=St.mark_else (r:=s.data.toList.drop 1) c60 c38 c123;rw[<- hcr] at hsl;have HSL:=hid hsl;have HBY:=hid (byte_any w.drew B b its tx cuts s[0] a (H.out.und ((Und.refl w).drew)) (by omega) (by omega) (by omega) hBw);clear hsl hcr c60 c38 c123;go_enter Tryz.func216,Tryz.ntmps216;go_wp2_with fail;refine wp_region_facts (fun _ _=>True) (fun L W=>if L 6=true then (St.fullB its.length tx.length cuts.length true=false->BAt mo W B b its (tx++[s[0]]) (cuts++[a]))/\Below B w.drew W else W=w.drew) ([fun v _=>v=.pointer (some ⟨b,0,none⟩),fun v _=>v=.pointer (some ⟨b,0,none⟩),fun v _=>v=.pointer (some ⟨b,0,none⟩),fun v _=>v=.string s,fun v _=>v=.int .u8 (s[0].toNat:Int),fun v _=>v=.int .i64 (a:Int),fun v _=>v=.bool (!St.fullB its.length tx.length cuts.length true),fun v _=>v=.int .i64 (limE (!St.fullB its.length tx.length cuts.length true)),fun v _=>v=.int .i64 1,fun v _=>v=.int .i64 (limE (!St.fullB its.length tx.length cuts.length true))]) (fun _=>trivial) (fun _ _ _ _ _=>trivial) (by kernel_rfl) (by rfl) (by kernel_rfl) (by kernel_rfl) ?_ ?_ ?_ ?_ ?_;rotate_left 1
 ·skip
  intro ρ;simp only[putAll,Act.put,zsA,zsB,zsC,Nat.zero_add,Nat.reduceAdd];exact rfl
 ·skip
  simp
 ·skip
  refine ObsF.cons (fun ρ L W hR hI hL hD hO hF K hK=>?_) ?_
  ·skip
   clear hF hD hO hR;simp only[Act.put,zsA,zsB,zsC] at hK ⊢;go_simp;refine hK _ _ trivial (by simpa [updB] using hI) (fun _ _=>rfl)
  refine ObsF.cons (fun ρ L W hR hI hL hD hO hF K hK=>?_) ?_
  ·skip
   have f0:=allF_get hF (j:=0) (by decide);clear hF hD hO hR;simp only[Act.put,zsA,zsB,zsC] at hK ⊢;have e0:ρ 0=.pointer (some ⟨b,0,none⟩):=f0;rw[e0] at hK ⊢;go_simp;refine hK _ _ trivial (by simpa [updB] using hI) (fun _ _=>rfl)
  refine ObsF.cons (fun ρ L W hR hI hL hD hO hF K hK=>?_) ?_
  ·skip
   have f1:=allF_get hF (j:=1) (by decide);clear hF hD hO hR;simp only[Act.put,zsA,zsB,zsC] at hK ⊢;have e1:ρ 1=.pointer (some ⟨b,0,none⟩):=f1;rw[e1] at hK ⊢;go_simp;refine hK _ _ trivial (by simpa [updB] using hI) (fun _ _=>rfl)
  refine ObsF.cons (fun ρ L W hR hI hL hD hO hF K hK=>?_) ?_
  ·skip
   clear hF hD hO hR;simp only[Act.put,zsA,zsB,zsC] at hK ⊢;go_simp;refine hK _ _ trivial (by simpa [updB] using hI) (fun _ _=>rfl)
  refine ObsF.cons (fun ρ L W hR hI hL hD hO hF K hK=>?_) ?_
  ·skip
   have f3:=allF_get hF (j:=3) (by decide);clear hF hD hO hR;simp only[Act.put,zsA,zsB,zsC] at hK ⊢;have e3:ρ 3=.string s:=f3;rw[e3] at hK ⊢;go_simp;refine hK _ _ trivial (by simpa [updB] using hI) (fun _ _=>rfl)
  refine ObsF.cons (fun ρ L W hR hI hL hD hO hF K hK=>?_) ?_
  ·skip
   clear hF hD hO hR;simp only[Act.put,zsA,zsB,zsC] at hK ⊢;go_simp;refine hK _ _ trivial (by simpa [updB] using hI) (fun _ _=>rfl)
  refine ObsF.cons (fun ρ L W hR hI hL hD hO hF K hK=>?_) ?_
  ·skip
   have f2:=allF_get hF (j:=2) (by decide);have f4:=allF_get hF (j:=4) (by decide);have f5:=allF_get hF (j:=5) (by decide);rw[if_neg (by rw[hL];decide)] at hI;subst hI;clear hF hD hO hR;simp only[Act.put,zsA,zsB,zsC] at hK ⊢;have e2:ρ 2=.pointer (some ⟨b,0,none⟩):=f2;have e4:ρ 4=.int .u8 (s[0].toNat:Int):=f4;have e5:ρ 5=.int .i64 (a:Int):=f5;rw[e2,e4,e5] at hK ⊢;go_simp;go_at_call 247;refine HBY.out.mono ?_;rintro e W2 ⟨rfl,h1,h2⟩;exact hK _ _ trivial (by simp only[updB,if_true];exact⟨h1,h2⟩) (fun _ _=>rfl)
  refine ObsF.cons (fun ρ L W hR hI hL hD hO hF K hK=>?_) ?_
  ·skip
   have f6:=allF_get hF (j:=6) (by decide);clear hF hD hO hR;simp only[Act.put,zsA,zsB,zsC] at hK ⊢;have e6:ρ 6=.bool (!St.fullB its.length tx.length cuts.length true):=f6;rw[e6] at hK ⊢;go_simp;go_at_call 246;refine(mlimit_any _ _).mono ?_;rintro e W2 ⟨rfl,rfl⟩;exact hK _ _ trivial (by simpa [updB] using hI) (fun _ _=>rfl)
  refine ObsF.cons (fun ρ L W hR hI hL hD hO hF K hK=>?_) ?_
  ·skip
   clear hF hD hO hR;simp only[Act.put,zsA,zsB,zsC] at hK ⊢;go_simp;refine hK _ _ trivial (by simpa [updB] using hI) (fun _ _=>rfl)
  refine ObsF.cons (fun ρ L W hR hI hL hD hO hF K hK=>?_) ?_
  ·skip
   have f7:=allF_get hF (j:=7) (by decide);clear hF hD hO hR;simp only[Act.put,zsA,zsB,zsC] at hK ⊢;have e7:ρ 7=.int .i64 (limE (!St.fullB its.length tx.length cuts.length true)):=f7;rw[e7] at hK ⊢;go_simp;refine hK _ _ trivial (by simpa [updB] using hI) (fun _ _=>rfl)
  exact ObsF.nil
 ·skip
  intro ρ L W hR hI hL hF;obtain⟨_,_,_,_,_,_,_,_,g8,g9,_⟩:=hF;have g8:ρ 8=.int .i64 1:=g8;have g9:ρ 9=.int .i64 (limE (!St.fullB its.length tx.length cuts.length true)):=g9;rw[g8,g9];clear g8 g9 hR;rw[if_pos (hL 6 (by decide))] at hI;obtain⟨hba,hbl⟩:=hI;have HBL:=hid (Below.trans ((Below.refl B w).drew) hbl);have HBA:=hid hba;clear hba hbl hL;cases hfu:St.fullB its.length tx.length cuts.length true
  ·have HFU:=hid hfu
   clear hfu;go_wp2;go_ret2;exact mel_byte HSL.out hN'.out HFU.out HBL.out (HBA.out HFU.out) h3 rfl
  ·have HFU:=hid hfu
   clear hfu;go_wp2;go_ret2;exact mel_full HSL.out hN'.out HFU.out HBL.out
end
section
def mkD(raw:ByteArray):St.Res:=St.decT St.markL raw.size raw.data.toList 0 0 [] [] [] 0
def ReadEnd(raw:ByteArray)(w:World)(e:Ending)(w':World):Prop:=
 Und w w'/\((∃ mo its tx cuts,e=.returned (.tuple #[.pointer (some ⟨w.heap.size,0,none⟩),.int .i64 0,.int .i64 0])/\BAt mo w' w.heap.size w.heap.size its tx cuts/\its.length<=512/\cuts.length<=1024/\tx.length<=cuts.length/\mkD raw=(its++St.txt tx,cuts++[raw.size],0,0)) ∨
  ∃ (a:Nat) (er:Int),er ≠ 0/\e=.returned (.tuple #[.pointer none,.int .i64 a,.int .i64 er])/\mkD raw=([],[],a,er))
def MrRel(w:World)(raw:ByteArray)(s6:Value)(wr:World):Prop:=
 ∃ (a:Nat) (mo:Mo) (its:List St.It) (tx:List UInt8) (cuts:List Nat) (fuel:Nat),s6=.int .i64 a/\a<=raw.size/\raw.size-a<=fuel/\BAt mo wr w.heap.size w.heap.size its tx cuts/\St.NoTxt its/\its.length<=512/\cuts.length<=1024/\tx.length<=cuts.length /\
  mo.op.length<=cuts.length/\mo.c<=cuts.length/\tot mo.op<=a/\mkD raw=St.decT St.markL fuel (raw.data.toList.drop a) a a (its++St.txt tx) cuts mo.op mo.c/\Und w wr
theorem BAt.fresh(w:World):BAt ⟨.slice none 0 0,[],0⟩ (w.alloc (.cells #[.slice none 0 0,.slice none 0 0,.slice none 0 0,.slice none 0 0,.int .i64 0] 258)) w.heap.size w.heap.size [] [] []:=
 ⟨_,_,_,Nat.le_refl _,heap_alloc_new w _,World.ownsRow_nil _ _ _ _,World.ownsRow_nil _ _ _ _,World.ownsRow_nil _ _ _ _,World.ownsRow_nil _ _ _ _,.inl rfl⟩
theorem step_op{op op':List St.It}{c c':Nat}{k i:Int}{t:List UInt8}(h:St.stepT op c k t=some (i,op',c')):op'.length<=op.length+1/\c'<=c+1/\tot op'<=tot op+t.length:=by
 unfold St.stepT at h
 split at h
 ·cases hg:op.getLast? with
  | none=>rw[hg] at h;cases h
  | some o=>
   rw[hg] at h;simp only at h
   split at h
   ·simp only[Option.some.injEq,Prod.mk.injEq] at h
    obtain⟨_,rfl,rfl⟩:=h;refine⟨by simp;omega,by omega,?_⟩;have:=tot_le op (op.length-1)
    rw[<- List.dropLast_eq_take] at this;omega
   ·cases h
 split at h
 ·simp only[Option.some.injEq,Prod.mk.injEq] at h
  obtain⟨_,rfl,rfl⟩:=h;exact⟨by simp,by omega,by rw[tot_snoc];simp⟩
 split at h
 ·simp only[Option.some.injEq,Prod.mk.injEq] at h
  obtain⟨_,rfl,rfl⟩:=h;exact⟨by omega,by omega,by omega⟩
 ·simp only[Option.some.injEq,Prod.mk.injEq] at h
  obtain⟨_,rfl,rfl⟩:=h;exact⟨by omega,by omega,by omega⟩
theorem read_any(raw:ByteArray)(w:World)(hr:raw.size<=4611686018427387904):Calls Tryz.prog 167 #[.string raw] w (ReadEnd raw w):=by
 have hB0:=hid (BAt.fresh w);go_enter Tryz.func167,Tryz.ntmps167;go_wp2;go_loopw [6] (fun s6 wr=>MrRel w raw s6 wr) (fun s6 _=>raw.size+1-(intOf s6).toNat)
 case atStart=>exact⟨0,_,[],[],[],raw.size,rfl,by omega,by omega,hB0.out,St.noTxt_nil,by simp,by simp,by simp,by simp,by simp,by simp[tot],by simp[mkD,St.txt],(by apply_rules[uUe,uUa,uUb,uUc,uUd])⟩
 case round=>
  obtain⟨a,mo,its,tx,cuts,fuel,rfl,ha,hfu,hB,hN,h1,h2,h3,h4,h5,h6,hD,hu⟩:=hrel;clear hB0
  by_cases hlt:a<raw.size
  ·have hel:=element_any mo wr w.heap.size w.heap.size its tx cuts raw a hB hN h1 h2 h3 (by omega) (by omega) (by omega) hu.size hlt hr
   have HEL:=hid hel;have HD:=hid hD;have HU:=hid hu
   have h0:raw.data.toList.drop a ≠ []:=by
    intro e;have:=congrArg List.length e
    simp at this;omega
   obtain⟨fuel,rfl⟩:∃ m,fuel=m+1:=⟨fuel-1,by omega⟩;clear hel hB hN hD hu;go_wp2_with fail;refine HEL.out.mono ?_;rintro e w2 ⟨hbl,hm⟩;have hu2:Und w w2:=Und.of_below (Below.trans HU.out.below hbl);have HU2:=hid hu2;clear hbl hu2;cases hs:St.markL (raw.data.toList.drop a) with
   | none=>
    rw[hs] at hm;obtain⟨m,rfl⟩:=hm;have HD2:=hid (HD.out.trans (St.decT_none fuel a a _ cuts h0 hs));clear hs h0;go_wp2;go_ret3;exact⟨HU2.out,.inr ⟨a,2,by decide,rfl,HD2.out⟩⟩
   | some x=>
    obtain⟨k,t,n⟩:=x;rw[hs] at hm;simp only at hm;obtain⟨hk,hn1,hn2,hn4⟩:=St.mark_len hs;have hk0:k ≠ 0:=by omega
    have hn3:a+n<=raw.size:=by simp at hn2;omega
    have hdl:(raw.data.toList.drop a).drop n=raw.data.toList.drop (a+n):=by rw[List.drop_drop]
    cases hst:St.stepT mo.op mo.c k t with
    | none=>
     rw[hst] at hm;obtain⟨m,rfl⟩:=hm;have HD2:=hid (HD.out.trans (St.decT_tag fuel a a _ cuts h0 hs hk0 hst));clear hs h0 hst hdl;go_wp2;go_ret3;exact⟨HU2.out,.inr ⟨a,7,by decide,rfl,HD2.out⟩⟩
    | some y=>
     obtain⟨i,op',c'⟩:=y;rw[hst] at hm;simp only at hm
     split at hm
     ·rename_i hf
      obtain⟨m,rfl⟩:=hm;have HD2:=hid (HD.out.trans (St.decT_full fuel a a _ cuts h0 hs hk0 hst hf));clear hs h0 hf hst hdl;go_wp2;go_ret3;exact⟨HU2.out,.inr ⟨a,3,by decide,rfl,HD2.out⟩⟩
     ·rename_i hf
      obtain⟨rfl,v',its',tx',hB',hN',hadd,ht'⟩:=hm;have hd2:=HD.out.trans (St.decT_step fuel a a _ cuts h0 hs hk0 hst hf);obtain⟨o1,o2,o3⟩:=step_op hst;rw[<- hadd] at hd2 hf;rw[hdl] at hd2;have hl5:its'.length<=512:=by have:=(not_or.1 hf).1;simp at this;omega
      have hl6:cuts.length+1<=1024:=by have:=(not_or.1 hf).2;omega
      have HE:=hid (And.intro hd2 (And.intro hB' hN'));clear hd2 hB' hN' hadd hf hs h0 hdl HEL HD HU hst;go_wp2;exact⟨⟨a+n,_,its',tx',cuts++[a],fuel,congrArg (Value.int .i64) (by omega),hn3,by omega,HE.out.2.1,HE.out.2.2,hl5,by simp;omega,by simp;omega,by simp only[List.length_append,List.length_singleton];omega,by simp only[List.length_append,List.length_singleton];omega,by simp only;omega,HE.out.1,HU2.out⟩,by simp[intOf];omega⟩
  ·have haz:a=raw.size:=by omega
   subst haz;have hnil:raw.data.toList.drop raw.size=[]:=List.drop_of_length_le (by simp);rw[hnil,St.decT_nil] at hD;unfold St.endT at hD;obtain⟨v0,v1,v2,hv⟩:=hB;obtain⟨v,op,c⟩:=mo;simp only at h4 h5 h6 hD;obtain⟨A3,c3,rfl,_,_⟩:=own_slice (show wr.ownsRow w.heap.size 66 3 v op.length (cellsIt op) from hv.2.2.2.2.2.1);obtain⟨g3,_,_,_,hblt,_⟩:=hv.at;haveI:LtW w.heap.size wr:=LtW.of hblt;have HB:=hid (show BAt ⟨.slice A3 op.length c3,op,c⟩ wr w.heap.size w.heap.size its tx cuts from⟨_,_,_,hv⟩);have HU:=hid hu
   by_cases hop:op=[]
   ·rw[if_pos hop] at hD
    have HD:=hid hD;subst hop;have g3':wr.cell? ⟨w.heap.size,3,none⟩=some (.slice A3 0 c3):=g3;clear hlt hv hN hD hu hnil g3;go_wp2;go_ret3;exact⟨HU.out,.inl ⟨_,its,tx,cuts,rfl,HB.out,h1,h2,h3,HD.out⟩⟩
   ·rw[if_neg hop] at hD
    have HD:=hid hD;have hpos:(0:Int)<(op.length:Int):=by have:=List.length_pos_iff.2 hop;omega
    have g3':wr.cell? ⟨w.heap.size,3,none⟩=some (.slice A3 op.length c3):=g3;clear hlt hv hN hD hu hnil hop g3;go_wp2;go_ret3;exact⟨HU.out,.inr ⟨raw.size,7,by decide,rfl,HD.out⟩⟩
def DecEnd(R:St.Res)(w:World)(e:Ending)(w':World):Prop:=
 ∃ (A:Option Addr) (c:Nat),e=.returned (.tuple #[.slice A R.1.length c,.int .i64 (R.2.2.1:Int),.int .i64 R.2.2.2])/\ItemsAt w' A R.1/\R.1.length<=c/\c<=9223372036854775807/\Und w w'
def CutsEnd(R:St.Res)(w:World)(e:Ending)(w':World):Prop:=
 ∃ (A:Option Addr) (c:Nat),e=.returned (.tuple #[.slice A R.2.1.length c,.int .i64 R.2.2.2])/\NatsAt w' A R.2.1/\R.2.1.length<=c/\c<=9223372036854775807/\Und w w'
theorem mdecode_any(raw:ByteArray)(w:World)(hr:raw.size<=4611686018427387904):Calls Tryz.prog 110 #[.string raw] w (DecEnd (mkD raw) w):=by
 have HR:=hid (read_any raw w hr);go_enter Tryz.func110,Tryz.ntmps110;go_wp2_with fail;refine HR.out.mono ?_;rintro e w2 ⟨hu,⟨mo,its,tx,cuts,rfl,hB,h1,h2,h3,hD⟩|⟨a,er,her,rfl,hD⟩⟩
 ·have HI:=hid (items_any w2 w.heap.size w.heap.size its tx cuts hB (by omega) (by omega) hu.size)
  have HU:=hid hu;have HD:=hid hD;clear hu hB hD HR;go_wp2_with fail;refine HI.out.mono ?_;rintro e w3 ⟨A,c,rfl,hI,hc1,hc2,hbl⟩;have HE:=hid (And.intro hI (Und.of_below (Below.trans HU.out.below hbl)));have hc1':=hid hc1;clear hI hbl hc1;go_wp2;go_ret3;unfold DecEnd;rw[HD.out];exact⟨A,c,by simp only[List.length_append];rfl,HE.out.1,hc1'.out,hc2,HE.out.2⟩
 ·have hb:(er==0)=false:=by simpa using her
  have HU:=hid hu;have HD:=hid hD;clear hu hD HR;go_wp2;go_ret3;unfold DecEnd;rw[HD.out];exact⟨none,0,rfl,fun h=>absurd h (by simp),by simp,by omega,HU.out⟩
theorem mcuts_any(raw:ByteArray)(w:World)(hr:raw.size<=4611686018427387904):Calls Tryz.prog 118 #[.string raw] w (CutsEnd (mkD raw) w):=by
 have HR:=hid (read_any raw w hr);go_enter Tryz.func118,Tryz.ntmps118;go_wp2_with fail;refine HR.out.mono ?_;rintro e w2 ⟨hu,⟨mo,its,tx,cuts,rfl,hB,h1,h2,h3,hD⟩|⟨a,er,her,rfl,hD⟩⟩
 ·have HI:=hid (bcuts_any w2 w.heap.size w.heap.size its tx cuts raw.size hB (by omega) (by simpa using hu.size))
  have HU:=hid hu;have HD:=hid hD;clear hu hB hD HR;go_wp2_with fail;refine HI.out.mono ?_;rintro e w3 ⟨A,c,rfl,hI,hc1,hc2,hbl⟩;have HE:=hid (And.intro hI (Und.of_below (Below.trans HU.out.below hbl)));have hc1':=hid hc1;clear hI hbl hc1;go_wp2;go_ret2;unfold CutsEnd;rw[HD.out];exact⟨A,c,by simp,HE.out.1,by simpa using hc1'.out,hc2,HE.out.2⟩
 ·have hb:(er==0)=false:=by simpa using her
  have HU:=hid hu;have HD:=hid hD;clear hu hD HR;go_wp2;go_ret2;unfold CutsEnd;rw[HD.out];exact⟨none,0,rfl,fun h=>absurd h (by simp),by simp,by omega,HU.out⟩
def dE(l:List UInt8):Nat × Int:=((St.decFT St.markL l 0 0 [] [] [] 0).2.2.1,(St.decFT St.markL l 0 0 [] [] [] 0).2.2.2)
theorem mkD_F(x:ByteArray):mkD x=St.decFT St.markL x.data.toList 0 0 [] [] [] 0:=by unfold mkD St.decFT;rw[St.len_list]
theorem dE_of(x:ByteArray):dE x.data.toList=((mkD x).2.2.1,(mkD x).2.2.2):=by unfold dE;rw[mkD_F]
theorem decT_at:∀ (fuel:Nat) (l:List UInt8) (a d:Nat) (f:List St.It) (cuts:List Nat) (op:List St.It) (c:Nat),(St.decT St.markL fuel l a d f cuts op c).2.2.1<=a+l.length
 | 0,l,a,d,f,cuts,op,c=>by unfold St.decT St.endT;split <;> simp
 | fuel+1,l,a,d,f,cuts,op,c=>by
  by_cases h0:l=[]
  ·subst h0;rw[St.decT_nil];unfold St.endT;split <;> simp
  ·cases hs:St.markL l with
   | none=>rw[St.decT_none fuel a d f cuts h0 hs];simp
   | some x=>
    obtain⟨k,t,n⟩:=x;obtain⟨hk,hn1,hn2,_⟩:=St.mark_len hs;cases hst:St.stepT op c k t with
    | none=>rw[St.decT_tag fuel a d f cuts h0 hs (by omega) hst];simp
    | some y=>
     obtain⟨i,op',c'⟩:=y
     by_cases hf:512<(St.addI f (k,t,i)).length∨1024<=cuts.length
     ·rw[St.decT_full fuel a d f cuts h0 hs (by omega) hst hf];simp
     ·rw[St.decT_step fuel a d f cuts h0 hs (by omega) hst hf]
      have h:=decT_at fuel (l.drop n) (a+n) (a+n) (St.addI f (k,t,i)) (cuts++[d]) op' c';rw[List.length_drop] at h;omega
theorem mkD_at(x:ByteArray):(mkD x).2.2.1<=x.size:=by
 have:=decT_at x.size x.data.toList 0 0 [] [] [] 0
 rw[St.len_list] at this;unfold mkD;omega
end
section
def tabName:String:=(Rows.topSimilarRow.named).getD 1 "x"
def Tab(w:World):Prop:=Lib.TabIs Tryz.prog w tabName .u64 Lib.pow10Tab
theorem Tab.und{w w':World}(h:Und w w')(t:Tab w):Tab w':=by
 unfold Tab Lib.TabIs World.var? at t ⊢;cases hg:Program.globalNamed Tryz.prog tabName with
 | none=>rw[hg] at t;simp at t
 | some g=>
  rw[hg] at t;simp only[Option.bind_some] at t ⊢
  have hlt:g<w.heap.size:=by
   rcases Nat.lt_or_ge g w.heap.size with h|h
   ·exact h
   ·rw[Array.getElem?_eq_none h] at t;simp at t
  rw[h.below.block g hlt];exact t
theorem und_grow{a b:World}(h:Und a b)(os:Array Obj):Und a (Go.Sort.grow b os):=by
 refine Und.mk ⟨h.below.os,h.below.tape,h.below.output,?_,fun k hk=>?_⟩
 ·have:=h.below.size;unfold Go.Sort.grow;simp;omega
 ·unfold Go.Sort.grow
  have:=h.below.size
  rw[Array.getElem?_append_left (by omega)];exact h.below.block k hk
theorem itoa_any(n:Nat)(w:World)(h1:n<=4611686018427387904)(t:Tab w) :
  Calls Tryz.prog 161 #[.int .i64 n] w fun e w'=>e=.returned (.string ⟨(Lib.decDigits n).toArray⟩)/\Und w w':=by
 refine(Any.strconv_Itoa Tryz.laysM171 n (by omega) (by omega) w t).mono ?_;rintro e w' ⟨rfl,k,os,rfl⟩;refine⟨?_,und_grow ((Und.refl w).drewN k) os⟩;unfold Lib.itoa;rw[if_neg (by omega)];simp
end
section
theorem newParts_any(d:ByteArray)(w:World):Calls Tryz.prog 157 #[.string d] w fun e w'=>e=.returned (.pointer (some ⟨w.heap.size,0,none⟩))/\w'=w.alloc (.cells #[.string d,.int .i64 0,.slice none 0 0] 303):=by
 go_enter Tryz.func157,Tryz.ntmps157;go_wp2;go_ret;exact⟨rfl,rfl⟩
def LibAt(w:World):Prop:=Tab w/\∃ m:Int,0<w.heap.size/\w.cell? ⟨0,0,none⟩=some (.int .i64 m)
theorem LibAt.und{w w':World}(h:LibAt w)(u:Und w w'):LibAt w':=by
 obtain⟨h1,m,h2,h3⟩:=h;exact⟨h1.und u,m,Nat.lt_of_lt_of_le h2 u.size,(u.cell (p:=⟨0,0,none⟩) h2).trans h3⟩
def mkT(d:ByteArray):List St.Pt × Nat × Int:=St.splitM dE Lib.decDigits d.data.toList
def SplitEnd(R:List St.Pt × Nat × Int)(w:World)(e:Ending)(w':World):Prop:=
 ∃ (A:Option Addr) (c:Nat),e=.returned (.tuple #[.slice A R.1.length c,.int .i64 (R.2.1:Int),.int .i64 R.2.2])/\PartsAt w' A R.1/\R.1.length<=c/\c<=9223372036854775807/\Und w w'
theorem SplitEnd.err{R:List St.Pt × Nat × Int}{w w':World}{a:Nat}{er:Int}(h:R=([],a,er))(u:Und w w')(m:Int)(hm:m=a):SplitEnd R w (.returned (.tuple #[.slice none 0 0,.int .i64 m,.int .i64 er])) w':=by
 subst h hm;exact⟨none,0,rfl,fun h=>absurd h (by simp),by simp,by omega,u⟩
def MsRel(w:World)(d:ByteArray)(s3 s6:Value)(wr:World):Prop:=
 ∃ (a r fuel:Nat) (s:St.PS),s3=.int .i64 a/\s6=.int .i64 r/\a<=d.size/\r<=a/\d.size-a<fuel/\s.2<=a/\s.1.length<=2*a/\PV wr w.heap.size w.heap.size d s/\mkT d=St.endM' d.data.toList (St.mkS dE Lib.decDigits d.data.toList fuel a r s)/\Und w wr
theorem endB(b:List UInt8):((⟨#[60,47]⟩:ByteArray)++⟨b.toArray⟩++⟨#[62]⟩).data.toList=St.endM b:=by
 simp[St.endM]
theorem msplit_any(d:ByteArray)(w:World)(hL:LibAt w)(hd63:d.size<=4611686018427387904):Calls Tryz.prog 107 #[.string d] w (SplitEnd (mkT d) w):=by
 have hlen:=St.len_list d
 by_cases hbig:65536<d.size
 ·have hR:mkT d=([],0,3):=by unfold mkT St.splitM;rw[if_pos (by omega)]
  have HR:=hid hR;have hb:(65536:Int)<d.size:=by omega
  clear hR hlen hL;go_enter Tryz.func107,Tryz.ntmps107;go_wp2;go_ret3;exact SplitEnd.err HR.out (Und.refl _) _ rfl
 have hb:¬ (65536:Int)<d.size:=by omega
 have hd:d.size<=65536:=by omega
 have hP0:PV (w.alloc (.cells #[.string d,.int .i64 0,.slice none 0 0] 303)) w.heap.size w.heap.size d ([],0):=⟨Nat.le_refl _,.slice none 0 0,heap_alloc_new w _,World.ownsRow_nil _ _ _ _⟩
 have hS0:mkT d=St.endM' d.data.toList (St.mkS dE Lib.decDigits d.data.toList (d.size+1) 0 0 ([],0)):=by
  unfold mkT;rw[St.splitM_ok (by omega),hlen]
 have HE0:=hid (And.intro hP0 (And.intro hS0 ((Und.refl w).alloc (.cells #[.string d,.int .i64 0,.slice none 0 0] 303))));have HLEN:=hid hlen;obtain⟨htb,m,hm0,hm1⟩:=hL;have HTB:=hid htb;have HMX:=hid (show ∀ W,Und w W->W.cell? ⟨0,0,none⟩=some (.int .i64 m) from fun W hW=>(hW.cell (p:=⟨0,0,none⟩) hm0).trans hm1);clear hP0 hS0 hlen htb hm0 hm1;go_enter Tryz.func107,Tryz.ntmps107;go_wp2_with (go_at_call 157;refine(newParts_any d _).mono ?_;rintro e w' ⟨rfl,rfl⟩);go_loopw [3,6] (fun s3 s6 wr=>MsRel w d s3 s6 wr) (fun s3 _ _=>d.size+1-(intOf s3).toNat)
 case atStart=>exact⟨0,0,d.size+1,([],0),rfl,rfl,by omega,by omega,by omega,by simp,by simp,HE0.out.1,HE0.out.2.1,HE0.out.2.2⟩
 case round=>
  obtain⟨a,r,fuel,s,rfl,rfl,ha,hra,hfu,hs2,hs1,hP,hS,hu⟩:=hrel;have HP:=hid hP;have HS:=hid hS;have HU:=hid hu;have hsz:=hu.size;clear hP hS hu HE0
  by_cases hlt:a<d.size
  ·obtain⟨fuel,rfl⟩:∃ m,fuel=m+1:=⟨fuel-1,by omega⟩
   have HAL:=hid (show ¬ d.data.toList.length<=a by rw[HLEN.out];omega);have z:(a:Int)<d.size:=by omega
   have z2:(a:Int)<=d.size:=by omega
   obtain⟨x,hx⟩:∃ x,d.extract a d.size=x:=⟨_,rfl⟩;have hxl:x.data.toList=d.data.toList.drop a:=by rw[<- hx,Lib.extract_data,List.take_of_length_le (by simp)]
   have hxs:x.size=d.size-a:=by rw[<- hx];simp
   have hout:=fun W (hW:Und wr W)=>outside_any x m W (HMX.out _ (HU.out.trans hW)) (by omega) (by omega)
   rw[hxl] at hout;cases ho:St.outsM (d.data.toList.drop a) with
   | none=>
    rw[ho] at hout;have HO:=hid hout;have HR:=hid (HS.out.trans (by rw[St.mkS_bad HAL.out ho];rfl):mkT d=([],a,2));clear hout ho hxl;go_wp2_with fail;refine(HO.out _ (Und.refl _)).mono ?_;rintro e w2 ⟨hu2,q,y,rfl⟩;have HU2:=hid (HU.out.trans hu2);clear hu2 HO;go_wp2;go_ret3;exact SplitEnd.err HR.out HU2.out _ rfl
   | some q=>
    obtain⟨n,b⟩:=q;rw[ho] at hout;obtain⟨hn1,hn2,hb5,hbb⟩:=St.outs_len ho (by intro h0;have:=congrArg List.length h0;simp at this;omega);simp at hn2;have hout2:∀ W,Und wr W->Calls Tryz.prog 158 #[.string x] W fun e w'=>Und W w'/\e=.returned (.tuple #[.int .i64 n,.string ⟨b.toArray⟩,.bool true]):=hout
    by_cases hb0:b=[]
    ·subst hb0
     have HST:=hid (HS.out.trans (by rw[St.mkS_skip HAL.out ho]):mkT d=St.endM' d.data.toList (St.mkS dE Lib.decDigits d.data.toList fuel (a+n) r s));have HO:=hid hout2;clear hout hout2 ho hxl;go_wp2_with fail;refine(HO.out _ (Und.refl _)).mono ?_;rintro e w2 ⟨hu2,rfl⟩;have HU2:=hid (HU.out.trans hu2);have HP2:=hid (HP.out.und hu2);clear hu2 HO;go_wp2;exact⟨⟨a+n,r,fuel,s,congrArg (Value.int .i64) (by omega),rfl,by omega,by omega,by omega,by omega,by omega,HP2.out,HST.out,HU2.out⟩,by simp[intOf];omega⟩
    ·have hbk:=hbb hb0
     obtain⟨bb,hbb'⟩:∃ bb:ByteArray,(⟨b.toArray⟩:ByteArray)=bb:=⟨_,rfl⟩;have hbl:bb.data.toList=b:=by rw[<- hbb']
     have hbs:bb.size=b.length:=by rw[<- hbb'];show b.toArray.size=_;simp
     have hbne:(bb.toList==([]:List UInt8))=false:=by rw[bl_eq,hbl];exact decide_eq_false hb0
     rw[hbb'] at hout2;have HO:=hid hout2;obtain⟨x2,hx2⟩:∃ x2,d.extract (a+n) d.size=x2:=⟨_,rfl⟩;have hx2l:x2.data.toList=d.data.toList.drop (a+n):=by rw[<- hx2,Lib.extract_data,List.take_of_length_le (by simp)]
     have hx2s:x2.size=d.size-(a+n):=by rw[<- hx2];simp
     obtain⟨eb,heb⟩:∃ eb:ByteArray,(⟨#[60,47]⟩:ByteArray)++bb++⟨#[62]⟩=eb:=⟨_,rfl⟩;have hebl:eb.data.toList=St.endM b:=by rw[<- heb,<- hbb'];exact endB b
     have hebs:eb.size=b.length+3:=by have:=congrArg List.length hebl;rw[St.len_list] at this;rw[this];simp[St.endM]
     have hix:=fun W (hW:Und wr W)=>Tryz.strings_Index x2 eb m W (by omega) (HMX.out _ (HU.out.trans hW))
     rw[hebl,hx2l] at hix;have y1:((a:Int)+n)<=d.size:=by omega
     have y2:(0:Int)<=(a:Int)+n:=by omega
     have hge:=Lib.index_ge (d.data.toList.drop (a+n)) (St.endM b);have hno:=fun hj he=>St.mkS_open (dE:=dE) (dig:=Lib.decDigits) (fuel:=fuel) (r:=r) (s:=s) HAL.out ho hb0 hj he
     have hnoE:=fun hj he=>St.mkS_openE (dE:=dE) (dig:=Lib.decDigits) (fuel:=fuel) (r:=r) (s:=s) HAL.out ho hb0 hj he
     have hErr:=fun j hj he=>St.mkS_err (dE:=dE) (dig:=Lib.decDigits) (fuel:=fuel) (r:=r) (s:=s) (j:=j) HAL.out ho hb0 hj he
     have hUnit:=fun j hj he=>St.mkS_unit (dE:=dE) (dig:=Lib.decDigits) (fuel:=fuel) (r:=r) (s:=s) (j:=j) HAL.out ho hb0 hj he
     have hroom:=fun j (hj:Lib.index (d.data.toList.drop (a+n)) (St.endM b)=(j:Nat))=>St.index_room hj (by simp[St.endM])
     have y3:¬ 9223372036854775807<2+bb.size:=by omega
     have y4:¬ 9223372036854775807<2+bb.size+1:=by omega
     have y5:((a:Int)+n).toNat=a+n:=by omega
     generalize hzi:Lib.index (d.data.toList.drop (a+n)) (St.endM b)=zi at hix hge hno hnoE hErr hUnit hroom;have HIX:=hid hix;clear hix hout hout2 ho hxl hbk hbb hbb' hbl hebl hb0 hzi
     by_cases hz:zi<0
     ·have hN:=hno hz
      have hNE:=hnoE hz;rw[<- hx2l,dE_of] at hN hNE;have hdc:=fun W=>mdecode_any x2 W (by omega)
      have hat:=mkD_at x2;generalize mkD x2=R at hdc hat hN hNE;obtain⟨rf,rc,rw',re⟩:=R;simp only at hN hNE hat;have HDC:=hid hdc;have HN:=hid hN;have HNE:=hid hNE;clear hdc hN hNE hno hnoE hErr hUnit hroom hx2l;go_wp2_with fail;refine(HO.out _ (Und.refl _)).mono ?_;rintro e w2 ⟨hu2,rfl⟩;have HU2:=hid hu2;clear hu2;go_wp2_with fail;refine(HIX.out _ HU2.out).mono ?_;rintro e w3 ⟨rfl,rfl⟩;go_wp2_with fail;refine(HDC.out _).mono ?_;rintro e w6 ⟨A6,c6,rfl,_,_,_,hu6⟩;have HU6:=hid ((HU.out.trans HU2.out).trans hu6);clear hu6 HDC HIX HO HU2
      by_cases hre:re=0
      ·subst hre
       have HR:=hid (HS.out.trans (by rw[HN.out rfl,HLEN.out];rfl):mkT d=([],d.size,2));clear HN HNE HS;go_wp2;go_ret3;exact SplitEnd.err HR.out HU6.out _ rfl
      ·have hrb:(re==0)=false:=by simpa using hre
       have hrb2:(re != 0)=true:=by simpa using hre
       have HR:=hid (HS.out.trans (by rw[HNE.out hre];rfl):mkT d=([],a+n+rw',re));clear HN HNE HS;go_wp2;go_ret3;exact SplitEnd.err HR.out HU6.out _ (by omega)
     ·obtain⟨j,rfl⟩:∃ j:Nat,zi=(j:Int):=⟨zi.toNat,by omega⟩
      have hrm:=hroom j rfl;rw[List.length_drop,HLEN.out] at hrm;have hel:(St.endM b).length=b.length+3:=by simp[St.endM]
      rw[hel] at hrm;have hE:=hErr j rfl;have hUn:=hUnit j rfl;obtain⟨x3,hx3⟩:∃ x3,d.extract (a+n) (a+n+j)=x3:=⟨_,rfl⟩;have hc3:St.cutL d.data.toList (a+n) (a+n+j)=x3.data.toList:=by rw[<- hx3,cut_list]
      have hx3s:x3.size<=d.size:=by rw[<- hx3];simp;omega
      rw[hc3,dE_of] at hE hUn;have hdc:=fun W=>mdecode_any x3 W (by omega)
      have hat:=mkD_at x3;generalize mkD x3=R at hdc hat hE hUn;obtain⟨rf,rc,rw',re⟩:=R;simp only at hE hUn hat;have HDC:=hid hdc;have HE:=hid hE;have HUN:=hid hUn;have y6:¬ (j:Int)<0:=by omega
      have y7:((a:Int)+n+j).toNat=a+n+j:=by omega
      have y8:(a:Int)+n<=(a:Int)+n+j:=by omega
      have y9:(a:Int)+n+j<=d.size:=by omega
      clear hdc hE hUn hno hnoE hErr hUnit hroom hx2l hel hc3;go_wp2_with fail;refine(HO.out _ (Und.refl _)).mono ?_;rintro e w2 ⟨hu2,rfl⟩;have HU2:=hid hu2;clear hu2;go_wp2_with fail;refine(HIX.out _ HU2.out).mono ?_;rintro e w3 ⟨rfl,rfl⟩;go_wp2_with fail;refine(HDC.out _).mono ?_;rintro e w6 ⟨A6,c6,rfl,_,_,_,hu6⟩;have HU6:=hid (HU2.out.trans hu6);clear hu6 HDC HIX HO HU2
      by_cases hre:re=0
      ·subst hre
       have HST:=hid (HS.out.trans (by rw[HUN.out rfl]):mkT d=St.endM' d.data.toList (St.mkS dE Lib.decDigits d.data.toList fuel (a+n+j+(b.length+3)) (r+1) (St.unitS d.data.toList s (a+n) (a+n+j) (Lib.decDigits (r+1)))));have HIT:=hid (fun W (hW:Und w6 W)=>itoa_any (r+1) W (by omega) (HTB.out.und ((HU.out.trans HU6.out).trans hW)));have hr1:((r+1:Nat):Int)=(r:Int)+1:=by omega
       rw[hr1] at HIT;clear HE HUN HS;go_wp2_with fail;refine(HIT.out _ (Und.refl _)).mono ?_;rintro e w7 ⟨rfl,hu7⟩;have HP7:=hid ((HP.out.und HU6.out).und hu7);have HU7:=hid ((HU.out.trans HU6.out).trans hu7);have hun:=fun W (hp:PV W w.heap.size w.heap.size d s) (hw:w.heap.size<=W.heap.size)=>unit_all W w.heap.size w.heap.size d ⟨(Lib.decDigits (r+1)).toArray⟩ s (a+n) (a+n+j) hp (by omega) (by omega) (by omega) hd63 (by omega) hw
       have q1:((a+n:Nat):Int)=(a:Int)+n:=by omega
       have q2:((a+n+j:Nat):Int)=(a:Int)+n+j:=by omega
       rw[q1,q2] at hun;have HUNI:=hid hun;have hsz7:=HU7.out.size;clear hu7 hun HIT HU6 HU HP q1 q2;go_wp2_with fail;refine(HUNI.out _ HP7.out hsz7).mono ?_;rintro e w8 ⟨rfl,hp8,hbl8,_,_⟩;have HP8:=hid hp8;have HU8:=hid (Und.of_below (Below.trans HU7.out.below hbl8));clear hp8 hbl8 HUNI HP7 HU7;go_wp2;exact⟨⟨a+n+j+(b.length+3),r+1,fuel,_,congrArg (Value.int .i64) (by omega),congrArg (Value.int .i64) (by omega),by omega,by omega,by omega,by first|(simp[St.unitS];done)|(simp[St.unitS];omega),by first|(simp[St.unitS];done)|(simp[St.unitS];omega),HP8.out,HST.out,HU8.out⟩,by simp[intOf];omega⟩
      ·have hrb:(re==0)=false:=by simpa using hre
       have hrb2:(re != 0)=true:=by simpa using hre
       have HR:=hid (HS.out.trans (by rw[HE.out hre];rfl):mkT d=([],a+n+rw',re));have HU7:=hid (HU.out.trans HU6.out);clear HE HUN HS HU HU6;go_wp2;go_ret3;exact SplitEnd.err HR.out HU7.out _ (by omega)
  ·have hae:a=d.size:=by omega
   have HL:=hid (list_any wr w.heap.size w.heap.size d s HP.out (by omega) (by omega) (by omega) hsz);have HR:=hid (HS.out.trans (show St.endM' d.data.toList (St.mkS dE Lib.decDigits d.data.toList fuel a r s)=(St.endS d.data.toList s,0,0) by rw[St.mkS_end (by rw[HLEN.out];omega)];rfl));have z:¬ (a:Int)<d.size:=by omega
   go_wp2_with fail;refine HL.out.mono ?_;rintro e w3 ⟨A,c,rfl,hpa,hq1,hq2,hbl⟩;have HE:=hid (And.intro hpa (Und.of_below (Below.trans HU.out.below hbl)));have hq1':=hid hq1;clear hpa hbl hq1 HL;go_wp2;go_ret3;unfold SplitEnd;rw[HR.out];exact⟨A,c,by simp[St.endS],HE.out.1,by simpa [St.endS] using hq1'.out,hq2,HE.out.2⟩
end
end Go.Proofs.YtcfhfdphoidaeaaGreatDoor.Mk
namespace Go.Proofs.YtcfhfdphoidaeaaGreatDoor.St
end Go.Proofs.YtcfhfdphoidaeaaGreatDoor.St
namespace Go.Proofs.YtcfhfdphoidaeaaGreatDoor.St
end Go.Proofs.YtcfhfdphoidaeaaGreatDoor.St
namespace Go.Proofs.YtcfhfdphoidaeaaGreatDoor.St
def tg4:List (List UInt8):=[[98,114],[105,109,103,32,97]]
def tg2:List (List UInt8):=[[98],[105],[97,32,104,61,49]]
inductive GenT (ns:Bool):List It->List It->Nat->Prop
 | nil:GenT ns [] [] 0
 | text {f op:List It} {c:Nat} (t:List UInt8) (h:GenT ns f op c):GenT ns (addI f (1,t,0)) op c
 | slot {f op:List It} {c:Nat} (t:List UInt8) (ht:isNameL t=true) (h:GenT ns f op c):GenT ns (addI f (5,t,0)) op c
 | empty {f op:List It} {c:Nat} (t:List UInt8) (ht:t ∈ tg4) (h:GenT ns f op c):GenT ns (addI f (4,t,(c:Int)+1)) op (c+1)
 | opened {f op:List It} {c:Nat} (t:List UInt8) (ht:t ∈ tg2) (h:GenT ns f op c):GenT ns (addI f (2,t,(c:Int)+1)) (op++[(2,t,(c:Int)+1)]) (c+1)
 | closed {f op:List It} {c:Nat} (k:Nat) (hk:k<op.length) (hl:ns=true->k+1=op.length) (h:GenT ns f op c):GenT ns (addI f (3,nameOf op[k].2.1,op[k].2.2)) (op.take k++op.drop (k+1)) c
 | stray {f op:List It} {c:Nat} (hn:ns=false) (h:GenT ns f op c):GenT ns (addI f (3,[98],(c:Int)+1)) op (c+1)
theorem GenT.nm{ns:Bool}{f op:List It}{c:Nat}(h:GenT ns f op c):Nm f:=by
 induction h with
 | nil=>exact nm_nil
 | text t h ih=>exact nm_add ih _
 | slot t ht h ih=>exact nm_add ih _
 | empty t ht h ih=>exact nm_add ih _
 | opened t ht h ih=>exact nm_add ih _
 | closed k hk hl h ih=>exact nm_add ih _
 | stray hn h ih=>exact nm_add ih _
theorem GenT.small{ns:Bool}{f op:List It}{c:Nat}(h:GenT ns f op c):∀ y ∈ op,y.2.1.length<=5/\y.1=2:=by
 induction h with
 | nil=>intro y hy;cases hy
 | text t h ih=>exact ih
 | slot t ht h ih=>exact ih
 | empty t ht h ih=>exact ih
 | opened t ht h ih=>
  intro y hy;rcases List.mem_append.1 hy with hy|hy
  ·exact ih y hy
  ·simp at hy;subst hy
   simp[tg2] at ht;rcases ht with rfl|rfl|rfl <;> simp
 | closed k hk hl h ih=>
  intro y hy;rcases List.mem_append.1 hy with hy|hy
  ·exact ih y (List.mem_of_mem_take hy)
  ·exact ih y (List.mem_of_mem_drop hy)
 | stray hn h ih=>exact ih
theorem name_le'(l:List UInt8):(nameOf l).length<=l.length:=(List.takeWhile_prefix _).length_le
end Go.Proofs.YtcfhfdphoidaeaaGreatDoor.St
namespace Go.Proofs.YtcfhfdphoidaeaaGreatDoor.St
def GItem(x:It):Prop:=(x.1=1/\x.2.2=0)∨(x.1=5/\isNameL x.2.1=true/\x.2.2=0)∨((x.1=2∨x.1=4)/\isContentL x.2.1=true/\blockL (nameOf x.2.1)=false/\1<=x.2.2/\x.2.2<=999)∨(x.1=3/\isNameL x.2.1=true/\blockL x.2.1=false/\1<=x.2.2/\x.2.2<=999)
theorem isTagK_iff(k:Int):isTagK k=true ↔ k=2∨k=3∨k=4:=by unfold isTagK;simp
theorem tg2_ok{t:List UInt8}(h:t ∈ tg2):isContentL t=true/\blockL (nameOf t)=false/\isNameL (nameOf t)=true:=by
 simp[tg2] at h;rcases h with rfl|rfl|rfl <;> decide
theorem tg4_ok{t:List UInt8}(h:t ∈ tg4):isContentL t=true/\blockL (nameOf t)=false:=by
 simp[tg4] at h;rcases h with rfl|rfl <;> decide
theorem mem_addI{f:List It}{x y:It}(h:y ∈ addI f x):y ∈ f∨y=x∨(y.1=1/\y.2.2=0/\x.1=1):=by
 rcases snoc_cases f with rfl|⟨a,b,rfl⟩
 ·rw[addI_nil] at h
  split at h
  ·rename_i h1
   split at h
   ·cases h
   ·simp at h;subst h;exact .inr (.inr ⟨rfl,rfl,h1⟩)
  ·simp at h;exact .inr (.inl h)
 ·rw[addI_snoc] at h
  split at h
  ·rename_i h1
   split at h
   ·exact .inl h
   split at h
   ·rcases List.mem_append.1 h with h|h
    ·exact .inl (List.mem_append_left _ h)
    ·simp at h;subst h;exact .inr (.inr ⟨rfl,rfl,h1⟩)
   ·rcases List.mem_append.1 h with h|h
    ·exact .inl h
    ·simp at h;subst h;exact .inr (.inr ⟨rfl,rfl,h1⟩)
  ·rcases List.mem_append.1 h with h|h
   ·exact .inl h
   ·simp at h;exact .inr (.inl h)
theorem addI_tag{f:List It}{x:It}(h:x.1 ≠ 1):addI f x=f++[x]:=by unfold addI;rw[if_neg h]
theorem posI_snoc(f:List It)(x:It):posI (f++[x])=posI f++(if x.1=1 then x.2.1.map (fun c=>((1:Int),[c],(0:Int))) else [x]):=by simp[posI]
theorem posI_text(f:List It)(t:List UInt8):posI (addI f (1,t,0))=posI f++t.map (fun c=>((1:Int),[c],(0:Int))):=by
 rcases snoc_cases f with rfl|⟨a,b,rfl⟩
 ·rw[addI_nil]
  simp only[if_true]
  split
  ·rename_i h;subst h;simp[posI]
  ·simp[posI]
 ·rw[addI_snoc]
  simp only[if_true]
  split
  ·rename_i h;subst h;simp
  split
  ·rename_i h1
   rw[posI_snoc,posI_snoc,if_pos h1];simp
  ·rw[posI_snoc (a++[b])];simp
theorem okT_bytes(t:List UInt8)(op:List It)(c:Nat):okT (t.map (fun c=>((1:Int),[c],(0:Int)))) op c=some (op,c):=by
 induction t with
 | nil=>rfl
 | cons d t ih=>
  rw[List.map_cons,okT];simp only[stepT];exact ih
def NoClash(f:List It):Prop:=f.Pairwise fun y x=>isTagK x.1=true->clash x y=false
structure TagInv (f op:List It) (c:Nat):Prop where
 nm:Nm f
 items:∀ x ∈ f,(x.1=1/\x.2.2=0)∨(x.1=5/\isNameL x.2.1=true/\x.2.2=0)∨((x.1=2∨x.1=4)/\isContentL x.2.1=true/\blockL (nameOf x.2.1)=false/\1<=x.2.2/\x.2.2<=c)∨(x.1=3/\isNameL x.2.1=true/\blockL x.2.1=false/\1<=x.2.2/\x.2.2<=c)
 clash:NoClash f
 ok:okT (posI f) [] 0=some (op,c)
 opens:∀ o ∈ op,o.1=2/\o.2.1 ∈ tg2/\1<=o.2.2/\o.2.2<=c/\∀ y ∈ f,isTagK y.1=true->y.2.2=o.2.2->y=o
 apart:op.Pairwise fun a b=>a.2.2 ≠ b.2.2
theorem clash_ne{x y:It}(h:y.2.2 ≠ x.2.2):clash x y=false:=by unfold clash;simp[h]
theorem clash_no{x y:It}(h:isTagK y.1=false):clash x y=false:=by unfold clash;simp[h]
theorem noclash_snoc{f:List It}{x:It}(h:NoClash f)(hx:isTagK x.1=true->∀ y ∈ f,clash x y=false):NoClash (f++[x]):=by
 unfold NoClash;rw[List.pairwise_append];exact⟨h,by simp,fun y hy z hz=>by simp at hz;subst hz;exact fun ht=>hx ht y hy⟩
theorem noclash_left{f g:List It}(h:NoClash (f++g)):NoClash f:=(List.pairwise_append.1 h).1
theorem noclash_text{f:List It}(h:NoClash f)(t:List UInt8):NoClash (addI f (1,t,0)):=by
 have hn:∀ u:List UInt8,isTagK ((1,u,0):It).1=true->False:=fun u hu=>by simp[isTagK] at hu
 rcases snoc_cases f with rfl|⟨a,b,rfl⟩
 ·rw[addI_nil]
  simp only[if_true]
  split
  ·exact List.Pairwise.nil
  ·simp[NoClash]
 ·rw[addI_snoc]
  simp only[if_true]
  split
  ·exact h
  split
  ·exact noclash_snoc (noclash_left h) fun hu=>(hn _ hu).elim
  ·exact noclash_snoc h fun hu=>(hn _ hu).elim
theorem tagInv_nil:TagInv [] [] 0:=⟨nm_nil,(fun _ h=>by cases h),List.Pairwise.nil,rfl,(fun _ h=>by cases h),List.Pairwise.nil⟩
theorem tagInv_text{f op:List It}{c:Nat}(h:TagInv f op c)(t:List UInt8):TagInv (addI f (1,t,0)) op c:=by
 refine⟨nm_add h.nm _,fun x hx=>?_,noclash_text h.clash t,?_,fun o ho=>?_,h.apart⟩
 ·rcases mem_addI hx with hx|rfl|⟨h1,h2,_⟩
  ·exact h.items x hx
  ·exact .inl ⟨rfl,rfl⟩
  ·exact .inl ⟨h1,h2⟩
 ·rw[posI_text,okT_append _ _ _ _ h.ok];exact okT_bytes _ _ _
 ·obtain⟨h1,h2,h3,h4,h5⟩:=h.opens o ho
  refine⟨h1,h2,h3,h4,fun y hy ht he=>?_⟩;rcases mem_addI hy with hy|rfl|⟨g1,_,_⟩
  ·exact h5 y hy ht he
  ·simp[isTagK] at ht
  ·rw[g1] at ht;simp[isTagK] at ht
theorem tagInv_slot{f op:List It}{c:Nat}(h:TagInv f op c)(t:List UInt8)(hn:isNameL t=true):TagInv (addI f (5,t,0)) op c:=by
 refine⟨nm_add h.nm _,fun x hx=>?_,?_,?_,fun o ho=>?_,h.apart⟩
 ·rcases mem_addI hx with hx|rfl|⟨h1,h2,_⟩
  ·exact h.items x hx
  ·exact .inr (.inl ⟨rfl,hn,rfl⟩)
  ·exact .inl ⟨h1,h2⟩
 ·rw[addI_tag (by simp)]
  exact noclash_snoc h.clash fun hu=>by simp[isTagK] at hu
 ·rw[addI_tag (by simp),posI_snoc,okT_append _ _ _ _ h.ok];rfl
 ·obtain⟨h1,h2,h3,h4,h5⟩:=h.opens o ho
  refine⟨h1,h2,h3,h4,fun y hy ht he=>?_⟩;rcases mem_addI hy with hy|rfl|⟨g1,_,_⟩
  ·exact h5 y hy ht he
  ·simp[isTagK] at ht
  ·rw[g1] at ht;simp[isTagK] at ht
theorem ids_le{f op:List It}{c:Nat}(h:TagInv f op c):∀ y ∈ f,y.2.2<=c:=by
 intro y hy;rcases h.items y hy with ⟨_,h2⟩|⟨_,_,h2⟩|⟨_,_,_,_,h2⟩|⟨_,_,_,_,h2⟩ <;> omega
theorem items_up{c:Nat}{x:It}(h:(x.1=1/\x.2.2=0)∨(x.1=5/\isNameL x.2.1=true/\x.2.2=0)∨((x.1=2∨x.1=4)/\isContentL x.2.1=true/\blockL (nameOf x.2.1)=false/\1<=x.2.2/\x.2.2<=c)∨(x.1=3/\isNameL x.2.1=true/\blockL x.2.1=false/\1<=x.2.2/\x.2.2<=c)) :
  (x.1=1/\x.2.2=0)∨(x.1=5/\isNameL x.2.1=true/\x.2.2=0)∨((x.1=2∨x.1=4)/\isContentL x.2.1=true/\blockL (nameOf x.2.1)=false/\1<=x.2.2/\x.2.2<=((c+1:Nat):Int))∨(x.1=3/\isNameL x.2.1=true/\blockL x.2.1=false/\1<=x.2.2/\x.2.2<=((c+1:Nat):Int)):=by
 rcases h with h|h|⟨h1,h2,h3,h4,h5⟩|⟨h1,h2,h3,h4,h5⟩
 ·exact .inl h
 ·exact .inr (.inl h)
 ·exact .inr (.inr (.inl ⟨h1,h2,h3,h4,by omega⟩))
 ·exact .inr (.inr (.inr ⟨h1,h2,h3,h4,by omega⟩))
theorem tagInv_empty{f op:List It}{c:Nat}(h:TagInv f op c)(t:List UInt8)(hn:t ∈ tg4):TagInv (addI f (4,t,(c:Int)+1)) op (c+1):=by
 have hid:=ids_le h;obtain⟨q1,q2⟩:=tg4_ok hn;refine⟨nm_add h.nm _,fun x hx=>?_,?_,?_,fun o ho=>?_,h.apart⟩
 ·rcases mem_addI hx with hx|rfl|⟨h1,h2,_⟩
  ·exact items_up (h.items x hx)
  ·exact .inr (.inr (.inl ⟨.inr rfl,q1,q2,by simp only;omega,by simp only;omega⟩))
  ·exact .inl ⟨h1,h2⟩
 ·rw[addI_tag (by simp)]
  exact noclash_snoc h.clash fun _ y hy=>clash_ne (by have:=hid y hy;simp only;omega)
 ·rw[addI_tag (by simp),posI_snoc,okT_append _ _ _ _ h.ok]
  simp[okT,stepT]
 ·obtain⟨h1,h2,h3,h4,h5⟩:=h.opens o ho
  refine⟨h1,h2,h3,by omega,fun y hy ht he=>?_⟩;rcases mem_addI hy with hy|rfl|⟨g1,_,_⟩
  ·exact h5 y hy ht he
  ·simp only at he;omega
  ·rw[g1] at ht;simp[isTagK] at ht
theorem tagInv_open{f op:List It}{c:Nat}(h:TagInv f op c)(t:List UInt8)(hn:t ∈ tg2):TagInv (addI f (2,t,(c:Int)+1)) (op++[(2,t,(c:Int)+1)]) (c+1):=by
 have hid:=ids_le h;obtain⟨q1,q2,q3⟩:=tg2_ok hn;refine⟨nm_add h.nm _,fun x hx=>?_,?_,?_,fun o ho=>?_,?_⟩
 ·rcases mem_addI hx with hx|rfl|⟨h1,h2,_⟩
  ·exact items_up (h.items x hx)
  ·exact .inr (.inr (.inl ⟨.inl rfl,q1,q2,by simp only;omega,by simp only;omega⟩))
  ·exact .inl ⟨h1,h2⟩
 ·rw[addI_tag (by simp)]
  exact noclash_snoc h.clash fun _ y hy=>clash_ne (by have:=hid y hy;simp only;omega)
 ·rw[addI_tag (by simp),posI_snoc,okT_append _ _ _ _ h.ok]
  simp[okT,stepT]
 ·rcases List.mem_append.1 ho with ho|ho
  ·obtain⟨h1,h2,h3,h4,h5⟩:=h.opens o ho
   refine⟨h1,h2,h3,by omega,fun y hy ht he=>?_⟩;rcases mem_addI hy with hy|rfl|⟨g1,_,_⟩
   ·exact h5 y hy ht he
   ·simp only at he;omega
   ·rw[g1] at ht;simp[isTagK] at ht
  ·simp at ho;subst ho
   refine⟨rfl,hn,by simp only;omega,by simp only;omega,fun y hy ht he=>?_⟩;rcases mem_addI hy with hy|rfl|⟨g1,_,_⟩
   ·have:=hid y hy;simp only at he;omega
   ·rfl
   ·rw[g1] at ht;simp[isTagK] at ht
 ·rw[List.pairwise_append]
  refine⟨h.apart,by simp,fun a ha b hb=>?_⟩;simp at hb;subst hb;have:=(h.opens a ha).2.2.2.1
  simp only;omega
theorem tagInv_close{f op:List It}{o:It}{c:Nat}(h:TagInv f (op++[o]) c):TagInv (addI f (3,nameOf o.2.1,o.2.2)) op c:=by
 obtain⟨o1,o2,o3,o4,o5⟩:=h.opens o (by simp);obtain⟨q1,q2,q3⟩:=tg2_ok o2;have hap:=List.pairwise_append.1 h.apart;refine⟨nm_add h.nm _,fun x hx=>?_,?_,?_,fun p hp=>?_,hap.1⟩
 ·rcases mem_addI hx with hx|rfl|⟨h1,h2,_⟩
  ·exact h.items x hx
  ·exact .inr (.inr (.inr ⟨rfl,q3,q2,o3,o4⟩))
  ·exact .inl ⟨h1,h2⟩
 ·rw[addI_tag (by simp)]
  refine noclash_snoc h.clash fun _ y hy=>?_
  cases ht:isTagK y.1
  ·exact clash_no ht
  ·by_cases he:y.2.2=o.2.2
   ·have:=o5 y hy ht he
    subst this;unfold clash;simp[o1]
   ·exact clash_ne (by simpa using he)
 ·rw[addI_tag (by simp),posI_snoc,okT_append _ _ _ _ h.ok]
  simp[okT,stepT]
 ·obtain⟨h1,h2,h3,h4,h5⟩:=h.opens p (by simp[hp])
  refine⟨h1,h2,h3,h4,fun y hy ht he=>?_⟩;rcases mem_addI hy with hy|rfl|⟨g1,_,_⟩
  ·exact h5 y hy ht he
  ·have:=hap.2.2 p hp o (by simp)
   simp only at he;exact absurd he.symm this
  ·rw[g1] at ht;simp[isTagK] at ht
theorem genT_inv{f op:List It}{c:Nat}(h:GenT true f op c):TagInv f op c:=by
 induction h with
 | nil=>exact tagInv_nil
 | text t h ih=>exact tagInv_text ih t
 | slot t ht h ih=>exact tagInv_slot ih t ht
 | empty t ht h ih=>exact tagInv_empty ih t ht
 | opened t ht h ih=>exact tagInv_open ih t ht
 | @closed f op c k hk hl h ih=>
  have hk2:=hl rfl;have e1:op.drop (k+1)=[]:=List.drop_of_length_le (by omega)
  have e2:op=op.take k++[op[k]]:=by
   conv=>lhs;rw[<- List.take_append_drop k op,List.drop_eq_getElem_cons hk,e1]
  rw[e1,List.append_nil];rw[e2] at ih;have:=tagInv_close ih
  simpa using this
 | stray hn h ih=>cases hn
structure GoodT (f:List It):Prop where
 nm:Nm f
 items:∀ x ∈ f,GItem x
 clash:NoClash f
 ok:∃ c,okT (posI f) [] 0=some ([],c)
theorem genT_good{f:List It}{c:Nat}(h:GenT true f [] c)(hc:c<=999):GoodT f:=by
 have hi:=genT_inv h;refine⟨hi.nm,fun x hx=>?_,hi.clash,c,hi.ok⟩;rcases hi.items x hx with h|h|⟨h1,h2,h3,h4,h5⟩|⟨h1,h2,h3,h4,h5⟩
 ·exact .inl h
 ·exact .inr (.inl h)
 ·exact .inr (.inr (.inl ⟨h1,h2,h3,h4,by omega⟩))
 ·exact .inr (.inr (.inr ⟨h1,h2,h3,h4,by omega⟩))
end Go.Proofs.YtcfhfdphoidaeaaGreatDoor.St
namespace Go.Proofs.YtcfhfdphoidaeaaGreatDoor.St
section
variable {dE:List UInt8->Nat × Int} {dig:Nat->List UInt8} {d:List UInt8}
end
end Go.Proofs.YtcfhfdphoidaeaaGreatDoor.St
