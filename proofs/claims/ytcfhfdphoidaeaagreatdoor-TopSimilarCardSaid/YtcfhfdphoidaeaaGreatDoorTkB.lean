/- The contract of shingle.Words. Conditions: as the tokens' contracts. -/
import Derived.Test.YtcfhfdphoidaeaaGreatDoorTkSu
import Derived.Sort.Statements
set_option linter.unusedVariables false
set_option linter.unusedSimpArgs false
set_option maxHeartbeats 12800000
set_option maxRecDepth 20000
namespace Go.Proofs.YtcfhfdphoidaeaaGreatDoor
open Go.RowKit
section
theorem info_wd:(Tryz.prog.info? 9).map (fun i=>(i.zero,i.size,i.bytes))=some (some (.string ⟨#[]⟩),1,16):=by kernel_rfl
def cellsW(l:List (List UInt8)):List Value:=l.map fun t=>.string ⟨t.toArray⟩
theorem cellsW_snoc(l:List (List UInt8))(t:List UInt8):cellsW (l++[t])=cellsW l++[.string ⟨t.toArray⟩]:=by simp[cellsW]
theorem wordN_take(l:List St.It)(k:Nat)(h:k<l.length):St.wordN (l.take (k+1))=St.wordN (l.take k)++(if l[k].1=6 then [St.tkeyL l[k]] else []):=by
 unfold St.wordN;rw[List.take_add_one,List.getElem?_eq_getElem h,List.filter_append,List.map_append];congr 1;simp only[Option.toList_some,List.filter_cons,List.filter_nil]
 by_cases e:l[k].1=6
 ·simp[e]
 ·simp[e]
theorem wordN_len(l:List St.It):(St.wordN l).length<=l.length:=by unfold St.wordN;rw[List.length_map];exact List.length_filter_le ..
def WdRel(w:World)(l:List St.It)(n:Nat)(s3 s8:Value)(wr:World):Prop:=
 ∃ k:Nat,k<=n/\s8=.int .i64 k/\wr.ownsRow w.heap.size 9 1 s3 (St.wordN (l.take k)).length (cellsW (St.wordN (l.take k)))/\Und w wr
theorem words_any(A:Option Addr)(n c:Nat)(l:List St.It)(w:World)(hn:l.length=n)(h:ItemsAt w A l)(hl:n<=1000000)(ht:tot l<=1000000000) :
  Calls Tryz.prog 136 #[.slice A n c] w fun e w'=>∃ v,e=.returned v/\w'.ownsRow w.heap.size 9 1 v (St.wordN l).length (cellsW (St.wordN l))/\Und w w':=by
 have H:=hid h;have HN:=hid hn;have HT:=hid ht;obtain⟨i0,hi,hz0,hz1,hz2⟩:=info_parts info_wd;clear h hn ht;go_enter Tryz.func136,Tryz.ntmps136;go_wp2;go_loopw [3,8] (fun s3 s8 wr=>WdRel w l n s3 s8 wr) (fun _ s8 _=>n+1-(intOf s8).toNat)
 case atStart=>exact⟨0,by omega,rfl,World.ownsRow_nil _ _ _ _,Und.refl _⟩
 case round=>
  obtain⟨k,hk,rfl,hown,hu⟩:=hrel;have HU:=hid hu;have HOW:=hid hown;have hN:=HN.out;obtain⟨AO,cO,rfl,_⟩:=own_slice hown;have hsz:=hu.size;clear hown
  by_cases hlt:k<n
  ·have hlt2:k<l.length:=by omega
   obtain⟨b,off,rfl,hb,hc⟩:=(H.out.und hu) (by omega);obtain⟨c0,c1,c2⟩:=hc k hlt2;have hstep:=wordN_take l k hlt2;have htt:=tot_tk l k hlt2;have htl:=tot_tk_le l (k+1);have hT:=HT.out;have hwl:=wordN_len (l.take k);have htn:(l.take k).length=k:=by rw[List.length_take];omega
   generalize l[k]=x at c0 c1 c2 hstep htt;obtain⟨kd,tx,id⟩:=x;simp only at c0 c1 c2 hstep htt;have htx:tx.length<=4611686018427387904:=by omega
   haveI:LtW b wr:=LtW.of hb;have HST:=hid hstep;clear hc hu hstep htt htl
   by_cases h6:kd=6
   ·subst h6
    have hK:=fun W=>key_any 6 tx id W htx
    generalize hO:St.wordN (l.take k)=O at HOW HST hwl;generalize St.tkeyL (6,tx,id)=key at hK HST;have HK:=hid hK
    have HE:=hid (fun v' w4 (h1:w4.ownsRow w.heap.size 9 1 v' (O.length+1) (cellsW O++[.string ⟨key.toArray⟩])) (h2:Und w w4)=>(show WdRel w l n v' (.int .i64 ((k:Int)+1)) w4 from
     ⟨k+1,by omega,congrArg (Value.int .i64) (by omega),by rw[HST.out,if_pos rfl,cellsW_snoc,List.length_append,List.length_singleton];exact h1,h2⟩))
    clear hK hO;go_wp2_with (first|(go_at_call 156;refine(HK.out _).mono ?_;rintro e w' ⟨rfl,X,rfl⟩)|(at_builtin;refine wpList_append_own _ rfl _ _ 70 rfl w.heap.size 9 i0 (.string ⟨#[]⟩) 1 16 Tryz.underlying70 hi hz0 hz1 hz2 rfl (by decide) (.slice AO O.length cO) O.length _ rfl (own_und (by apply_rules[uUe,uUa,uUb,uUc,uUd]) HOW.out) _ 1 1 [.string ⟨key.toArray⟩] rfl rfl ?_ (by simp[Value.oneCell']) (by unfold maxLen;omega) (by omega) ?_ ?_))
    all_goals try exact side1c _ _ _ _ (by simp)
    all_goals try exact(HU.out.trans (by apply_rules[uUe,uUa,uUb,uUc,uUd])).size
    all_goals try omega
    ·intro v' w4 hown' hgrow _
     have HE2:=hid (HE.out v' w4 hown' ((HU.out.trans (by apply_rules[uUe,uUa,uUb,uUc,uUd])).grown hgrow (fun g hg=>owns_block HOW.out g hg)));clear hown' hgrow;go_wp2;exact⟨HE2.out,by simp[intOf];omega⟩
   ·have q6:(kd==6)=false:=by simpa using h6
    have HE:=hid (fun W (hW:Und wr W)=>(show WdRel w l n (.slice AO (St.wordN (l.take k)).length cO) (.int .i64 ((k:Int)+1)) W from
     ⟨k+1,by omega,congrArg (Value.int .i64) (by omega),by rw[HST.out,if_neg h6,List.append_nil];exact own_und hW HOW.out,HU.out.trans hW⟩))
    clear h6;go_wp2;exact⟨HE.out _ (by apply_rules[uUe,uUa,uUb,uUc,uUd]),by simp[intOf];omega⟩
  ·have hkn:n=k:=by omega
   subst hkn;have hft:l.take n=l:=List.take_of_length_le (by omega);have HE:=hid (show wr.ownsRow w.heap.size 9 1 (.slice AO (St.wordN (l.take n)).length cO) (St.wordN l).length (cellsW (St.wordN l)) from by have:=HOW.out;rw[hft] at this;rw[hft];exact this);clear hlt hft hu;go_wp2;go_ret;exact⟨_,rfl,HE.out,HU.out⟩
end
section
def clsV(t:St.It):Value:=.agg #[.int .i64 t.1,.string ⟨(if St.subK t.1 || t.1==6 then St.tkeyL t else t.2.1).toArray⟩,.int .i64 0]
theorem class_any(k:Int)(t:List UInt8)(i:Int)(w:World)(ht:t.length<=4611686018427387904) :
  Calls Tryz.prog 137 #[.agg #[.int .i64 k,.string ⟨t.toArray⟩,.int .i64 i]] w fun e w'=>e=.returned (.tuple #[clsV (k,t,i),.bool (St.clsT (k,t,i)).isSome])/\Und w w':=by
 have hK:=fun W=>key_any k t i W ht
 have HC:=hid (fun W (hW:Und (w.alloc (.cells #[.int .i64 k,.string ⟨t.toArray⟩,.int .i64 i] 104)) W)=>(show W.cell? ⟨w.heap.size,0,none⟩=some (.int .i64 k)/\W.cell? ⟨w.heap.size,1,none⟩=some (.string ⟨t.toArray⟩)/\W.cell? ⟨w.heap.size,2,none⟩=some (.int .i64 i) from
  ⟨(hW.cell (p:=⟨w.heap.size,0,none⟩) (by simp)).trans (by simp),(hW.cell (p:=⟨w.heap.size,1,none⟩) (by simp)).trans (by simp),(hW.cell (p:=⟨w.heap.size,2,none⟩) (by simp)).trans (by simp)⟩))
 have HBB:=hid (show ((w.alloc (.cells #[.int .i64 k,.string ⟨t.toArray⟩,.int .i64 i] 104)).alloc (.cells #[.int .i64 0,.string ⟨#[]⟩,.int .i64 0] 104)).heap[w.heap.size+1]?=some (.cells #[.int .i64 0,.string ⟨#[]⟩,.int .i64 0] 104 (0,0)) from by
  have h:=heap_alloc_new (w.alloc (.cells #[.int .i64 k,.string ⟨t.toArray⟩,.int .i64 i] 104)) (.cells #[.int .i64 0,.string ⟨#[]⟩,.int .i64 0] 104);rw[show (w.alloc (.cells #[.int .i64 k,.string ⟨t.toArray⟩,.int .i64 i] 104)).heap.size=w.heap.size+1 by simp] at h
  exact h)
 have hT:=fun W=>stag_any k ⟨t.toArray⟩ i W
 by_cases hk:k=6∨k=7∨k=8∨k=9∨k=5
 ·have hs:(St.subK k || k==6)=true:=by unfold St.subK;rcases hk with rfl|rfl|rfl|rfl|rfl <;> rfl
  have hv:clsV (k,t,i)=.agg #[.int .i64 k,.string ⟨(St.tkeyL (k,t,i)).toArray⟩,.int .i64 0]:=by unfold clsV;rw[if_pos hs]
  have hc:(St.clsT (k,t,i)).isSome=true:=by unfold St.clsT;rw[if_pos hs];rfl
  rw[hv,hc];generalize St.tkeyL (k,t,i)=key at hK ⊢;have HK:=hid hK;clear hK hT hs hv hc;rcases hk with e|e|e|e|e <;>
  ·first|have q6:(k==6)=true:=by (rw[e];rfl)|have q6:(k==6)=false:=by (rw[e];rfl)
   first|have q7:(k==7)=true:=by (rw[e];rfl)|have q7:(k==7)=false:=by (rw[e];rfl)
   first|have q8:(k==8)=true:=by (rw[e];rfl)|have q8:(k==8)=false:=by (rw[e];rfl)
   first|have q9:(k==9)=true:=by (rw[e];rfl)|have q9:(k==9)=false:=by (rw[e];rfl)
   first|have q5:(k==5)=true:=by (rw[e];rfl)|have q5:(k==5)=false:=by (rw[e];rfl)
   clear e;go_enter Tryz.func137,Tryz.ntmps137;go_wp2_with fail;refine wp_region_facts (fun _ _=>True) (fun L W=>Und (w.alloc (.cells #[.int .i64 k,.string ⟨t.toArray⟩,.int .i64 i] 104)) W/\W.heap[w.heap.size+1]?=some (.cells (if L 5=true then #[.int .i64 k,.string ⟨key.toArray⟩,.int .i64 0] else #[.int .i64 0,.string ⟨#[]⟩,.int .i64 0]) 104 (0,0))) [fun v _=>v=.pointer (some ⟨w.heap.size,0,none⟩),fun v _=>v=.int .i64 k,fun v _=>v=.agg #[.int .i64 k,.string ⟨t.toArray⟩,.int .i64 i],fun v _=>v=.string ⟨key.toArray⟩,fun v _=>v=.agg #[.int .i64 k,.string ⟨key.toArray⟩,.int .i64 0],noFact,fun v _=>v=.bool true] (fun _=>trivial) (fun _ _ _ _ _=>trivial) (by kernel_rfl) (by rfl) (by kernel_rfl) (by kernel_rfl) ?_ ?hfr ?hI ?hob ?hend
   case hfr=>
    intro ρ;simp only[putAll,Act.put,zsA,zsB,zsC,Nat.zero_add,Nat.reduceAdd];exact rfl
   case hI=>exact⟨(by apply_rules[uUe,uUa,uUb,uUc,uUd]),by
     rw[if_neg (by simp)]
     exact HBB.out⟩
   case hob=>
    refine ObsF.cons (fun ρ L W hR hI hL hD hO hF K hK=>?_) ?_
    ·skip
     clear hF hD hO;simp only[Act.put,zsA,zsB,zsC] at hK ⊢;go_simp;refine hK _ _ trivial ⟨hI.1,by simpa [updB] using hI.2⟩ (fun W2 h2=>?_);rfl
    refine ObsF.cons (fun ρ L W hR hI hL hD hO hF K hK=>?_) ?_
    ·skip
     have f0:=allF_get hF (j:=0) (by decide);clear hF hD hO;simp only[Act.put,zsA,zsB,zsC] at hK ⊢;have e0:ρ 0=.pointer (some ⟨w.heap.size,0,none⟩):=f0;rw[e0] at hK ⊢;obtain⟨d0,d1,d2⟩:=HC.out W hI.1;haveI:LtW w.heap.size W:=LtW.of (Nat.lt_of_lt_of_le (by simp) hI.1.size);go_simp;refine hK _ _ trivial ⟨hI.1,by simpa [updB] using hI.2⟩ (fun W2 h2=>?_);rfl
    refine ObsF.cons (fun ρ L W hR hI hL hD hO hF K hK=>?_) ?_
    ·skip
     clear hF hD hO;simp only[Act.put,zsA,zsB,zsC] at hK ⊢;obtain⟨d0,d1,d2⟩:=HC.out W hI.1;haveI:LtW w.heap.size W:=LtW.of (Nat.lt_of_lt_of_le (by simp) hI.1.size);go_simp;refine hK _ _ trivial ⟨hI.1,by simpa [updB] using hI.2⟩ (fun W2 h2=>?_);rfl
    refine ObsF.cons (fun ρ L W hR hI hL hD hO hF K hK=>?_) ?_
    ·skip
     have f2:=allF_get hF (j:=2) (by decide);clear hF hD hO;simp only[Act.put,zsA,zsB,zsC] at hK ⊢;have e2:ρ 2=.agg #[.int .i64 k,.string ⟨t.toArray⟩,.int .i64 i]:=f2;rw[e2] at hK ⊢;refine step_callF3 (o:=⟨some 15,_,_,_,_,_⟩) rfl 156 #[.agg #[.int .i64 k,.string ⟨t.toArray⟩,.int .i64 i]] _ (HK.out W) ?_ ?_
     ·go_simp
     rintro e W2 ⟨rfl,hu⟩
     exact⟨_,rfl,hK _ _ trivial ⟨hI.1.trans hu,by
      have h3:=(hu.below.block (w.heap.size+1) (lt_of_heap hI.2)).trans hI.2
      simpa [updB] using h3⟩ (fun W3 h3=>rfl)⟩
    refine ObsF.cons (fun ρ L W hR hI hL hD hO hF K hK=>?_) ?_
    ·skip
     have f1:=allF_get hF (j:=1) (by decide);have f3:=allF_get hF (j:=3) (by decide);clear hF hD hO;simp only[Act.put,zsA,zsB,zsC] at hK ⊢;have e1:ρ 1=.int .i64 k:=f1;have e3:ρ 3=.string ⟨key.toArray⟩:=f3;rw[e1,e3] at hK ⊢;go_simp;refine hK _ _ trivial ⟨hI.1,by simpa [updB] using hI.2⟩ (fun W2 h2=>?_);rfl
    refine ObsF.cons (fun ρ L W hR hI hL hD hO hF K hK=>?_) ?_
    ·skip
     have f4:=allF_get hF (j:=4) (by decide);have hb:W.heap[w.heap.size+1]?=some (.cells #[.int .i64 0,.string ⟨#[]⟩,.int .i64 0] 104 (0,0)):=by simpa [hL] using hI.2
     haveI:LtW (w.heap.size+1) W:=LtW.of (lt_of_heap hb);clear hF hD hO;simp only[Act.put,zsA,zsB,zsC] at hK ⊢;have e4:ρ 4=.agg #[.int .i64 k,.string ⟨key.toArray⟩,.int .i64 0]:=f4;rw[e4] at hK ⊢;have fz0:W.frozen? ⟨w.heap.size+1,0,none⟩=false:=zfH hb 0;have gz0:=zcH hb 0;simp only[List.getElem?_toArray,List.getElem?_cons_zero,List.getElem?_cons_succ] at gz0;have fz1:W.frozen? ⟨w.heap.size+1,1,none⟩=false:=zfH hb 1;have gz1:=zcH hb 1;simp only[List.getElem?_toArray,List.getElem?_cons_zero,List.getElem?_cons_succ] at gz1;have fz2:W.frozen? ⟨w.heap.size+1,2,none⟩=false:=zfH hb 2;have gz2:=zcH hb 2;simp only[List.getElem?_toArray,List.getElem?_cons_zero,List.getElem?_cons_succ] at gz2;go_simp
     refine hK undef _ trivial ⟨(RowAt.set_und (RowAt.set_und (RowAt.set_und hI.1 (by simp) 0 (.int .i64 k)) (by simp) 1 (.string ⟨key.toArray⟩)) (by simp) 2 (.int .i64 0)),by
      have h3:=(heap_setCell_same _ (w.heap.size+1) 2 _ _ (.int .i64 0) (heap_setCell_same _ (w.heap.size+1) 1 _ _ (.string ⟨key.toArray⟩) (heap_setCell_same _ (w.heap.size+1) 0 _ _ (.int .i64 k) hb)));rw[if_pos (by simp[updB])]
      exact h3⟩ (fun _ _=>trivial)
    refine ObsF.cons (fun ρ L W hR hI hL hD hO hF K hK=>?_) ?_
    ·skip
     clear hF hD hO;simp only[Act.put,zsA,zsB,zsC] at hK ⊢;go_simp;refine hK _ _ trivial ⟨hI.1,by simpa [updB] using hI.2⟩ (fun W2 h2=>?_);rfl
    exact ObsF.nil
   case hend=>
    intro ρ L W hR hI hL hF;have hLS:L 5=true:=hL 5 (by decide);have hu0:=hI.1;have hb:W.heap[w.heap.size+1]?=some (.cells #[.int .i64 k,.string ⟨key.toArray⟩,.int .i64 0] 104 (0,0)):=by simpa [hLS] using hI.2
    have e6:ρ 6=.bool true:=by
     obtain⟨_,_,_,_,_,_,h,_⟩:=hF;exact h
    rw[e6];clear e6;clear hR hL hF hI hLS;have d0:W.cell? ⟨w.heap.size+1,0,none⟩=some (.int .i64 k):=zcH hb 0;have d1:W.cell? ⟨w.heap.size+1,1,none⟩=some (.string ⟨key.toArray⟩):=zcH hb 1;have d2:W.cell? ⟨w.heap.size+1,2,none⟩=some (.int .i64 0):=zcH hb 2;haveI:LtW (w.heap.size+1) W:=LtW.of (lt_of_heap hb);have HU:=hid (((Und.refl w).alloc _).trans hu0);clear hb hu0;go_wp2;refine bodyPost_ret (v:=.tuple #[.agg #[.int .i64 k,.string ⟨key.toArray⟩,.int .i64 0],.bool true]) ?_ rfl ?_
    ·simp[results,Tryz.results137,go_sem,d0,d1,d2]
    ·exact⟨rfl,HU.out⟩
 ·simp only[not_or] at hk
  obtain⟨n6,n7,n8,n9,n5⟩:=hk;have q6:(k==6)=false:=by simpa using n6
  have q7:(k==7)=false:=by simpa using n7
  have q8:(k==8)=false:=by simpa using n8
  have q9:(k==9)=false:=by simpa using n9
  have q5:(k==5)=false:=by simpa using n5
  have hs:(St.subK k || k==6)=false:=by unfold St.subK;rw[q6,q7,q8,q9,q5];rfl
  have hv:clsV (k,t,i)=.agg #[.int .i64 k,.string ⟨t.toArray⟩,.int .i64 0]:=by unfold clsV;rw[if_neg (by rw[hs];simp)]
  have hc:(St.clsT (k,t,i)).isSome=St.tagT k:=by
   unfold St.clsT;rw[if_neg (by rw[hs];simp)];cases St.tagT k <;> rfl
  rw[hv,hc];generalize St.tagT k=b at hT ⊢;have HT:=hid hT;clear hK hT hs hv hc n5 n6 n7 n8 n9;go_enter Tryz.func137,Tryz.ntmps137;go_wp2_with fail;refine wp_region_facts (fun _ _=>True) (fun L W=>Und (w.alloc (.cells #[.int .i64 k,.string ⟨t.toArray⟩,.int .i64 i] 104)) W/\W.heap[w.heap.size+1]?=some (.cells (if L 7=true then #[.int .i64 k,.string ⟨t.toArray⟩,.int .i64 0] else #[.int .i64 0,.string ⟨#[]⟩,.int .i64 0]) 104 (0,0))) [fun v _=>v=.pointer (some ⟨w.heap.size,0,none⟩),fun v _=>v=.int .i64 k,fun v _=>v=.pointer (some ⟨w.heap.size,1,none⟩),fun v _=>v=.string ⟨t.toArray⟩,fun v _=>v=.agg #[.int .i64 k,.string ⟨t.toArray⟩,.int .i64 0],fun v _=>v=.agg #[.int .i64 k,.string ⟨t.toArray⟩,.int .i64 i],fun v _=>v=.bool b,noFact,fun v _=>v=.bool b] (fun _=>trivial) (fun _ _ _ _ _=>trivial) (by kernel_rfl) (by rfl) (by kernel_rfl) (by kernel_rfl) ?_ ?hfr ?hI ?hob ?hend
  case hfr=>
   intro ρ;simp only[putAll,Act.put,zsA,zsB,zsC,Nat.zero_add,Nat.reduceAdd];exact rfl
  case hI=>exact⟨(by apply_rules[uUe,uUa,uUb,uUc,uUd]),by
    rw[if_neg (by simp)]
    exact HBB.out⟩
  case hob=>
   refine ObsF.cons (fun ρ L W hR hI hL hD hO hF K hK=>?_) ?_
   ·skip
    clear hF hD hO;simp only[Act.put,zsA,zsB,zsC] at hK ⊢;go_simp;refine hK _ _ trivial ⟨hI.1,by simpa [updB] using hI.2⟩ (fun W2 h2=>?_);rfl
   refine ObsF.cons (fun ρ L W hR hI hL hD hO hF K hK=>?_) ?_
   ·skip
    have f0:=allF_get hF (j:=0) (by decide);clear hF hD hO;simp only[Act.put,zsA,zsB,zsC] at hK ⊢;have e0:ρ 0=.pointer (some ⟨w.heap.size,0,none⟩):=f0;rw[e0] at hK ⊢;obtain⟨d0,d1,d2⟩:=HC.out W hI.1;haveI:LtW w.heap.size W:=LtW.of (Nat.lt_of_lt_of_le (by simp) hI.1.size);go_simp;refine hK _ _ trivial ⟨hI.1,by simpa [updB] using hI.2⟩ (fun W2 h2=>?_);rfl
   refine ObsF.cons (fun ρ L W hR hI hL hD hO hF K hK=>?_) ?_
   ·skip
    clear hF hD hO;simp only[Act.put,zsA,zsB,zsC] at hK ⊢;go_simp;refine hK _ _ trivial ⟨hI.1,by simpa [updB] using hI.2⟩ (fun W2 h2=>?_);rfl
   refine ObsF.cons (fun ρ L W hR hI hL hD hO hF K hK=>?_) ?_
   ·skip
    have f2:=allF_get hF (j:=2) (by decide);clear hF hD hO;simp only[Act.put,zsA,zsB,zsC] at hK ⊢;have e2:ρ 2=.pointer (some ⟨w.heap.size,1,none⟩):=f2;rw[e2] at hK ⊢;obtain⟨d0,d1,d2⟩:=HC.out W hI.1;haveI:LtW w.heap.size W:=LtW.of (Nat.lt_of_lt_of_le (by simp) hI.1.size);go_simp;refine hK _ _ trivial ⟨hI.1,by simpa [updB] using hI.2⟩ (fun W2 h2=>?_);rfl
   refine ObsF.cons (fun ρ L W hR hI hL hD hO hF K hK=>?_) ?_
   ·skip
    have f1:=allF_get hF (j:=1) (by decide);have f3:=allF_get hF (j:=3) (by decide);clear hF hD hO;simp only[Act.put,zsA,zsB,zsC] at hK ⊢;have e1:ρ 1=.int .i64 k:=f1;have e3:ρ 3=.string ⟨t.toArray⟩:=f3;rw[e1,e3] at hK ⊢;go_simp;refine hK _ _ trivial ⟨hI.1,by simpa [updB] using hI.2⟩ (fun W2 h2=>?_);rfl
   refine ObsF.cons (fun ρ L W hR hI hL hD hO hF K hK=>?_) ?_
   ·skip
    clear hF hD hO;simp only[Act.put,zsA,zsB,zsC] at hK ⊢;obtain⟨d0,d1,d2⟩:=HC.out W hI.1;haveI:LtW w.heap.size W:=LtW.of (Nat.lt_of_lt_of_le (by simp) hI.1.size);go_simp;refine hK _ _ trivial ⟨hI.1,by simpa [updB] using hI.2⟩ (fun W2 h2=>?_);rfl
   refine ObsF.cons (fun ρ L W hR hI hL hD hO hF K hK=>?_) ?_
   ·skip
    have f5:=allF_get hF (j:=5) (by decide);clear hF hD hO;simp only[Act.put,zsA,zsB,zsC] at hK ⊢;have e5:ρ 5=.agg #[.int .i64 k,.string ⟨t.toArray⟩,.int .i64 i]:=f5;rw[e5] at hK ⊢;refine step_callF3 (o:=⟨some 23,_,_,_,_,_⟩) rfl 191 #[.agg #[.int .i64 k,.string ⟨t.toArray⟩,.int .i64 i]] _ (HT.out W) ?_ ?_
    ·go_simp
    rintro e W2 ⟨rfl,hu⟩
    exact⟨_,rfl,hK _ _ trivial ⟨hI.1.trans hu,by
     have h3:=(hu.below.block (w.heap.size+1) (lt_of_heap hI.2)).trans hI.2
     simpa [updB] using h3⟩ (fun W3 h3=>rfl)⟩
   refine ObsF.cons (fun ρ L W hR hI hL hD hO hF K hK=>?_) ?_
   ·skip
    have f4:=allF_get hF (j:=4) (by decide);have hb:W.heap[w.heap.size+1]?=some (.cells #[.int .i64 0,.string ⟨#[]⟩,.int .i64 0] 104 (0,0)):=by simpa [hL] using hI.2
    haveI:LtW (w.heap.size+1) W:=LtW.of (lt_of_heap hb);clear hF hD hO;simp only[Act.put,zsA,zsB,zsC] at hK ⊢;have e4:ρ 4=.agg #[.int .i64 k,.string ⟨t.toArray⟩,.int .i64 0]:=f4;rw[e4] at hK ⊢;have fz0:W.frozen? ⟨w.heap.size+1,0,none⟩=false:=zfH hb 0;have gz0:=zcH hb 0;simp only[List.getElem?_toArray,List.getElem?_cons_zero,List.getElem?_cons_succ] at gz0;have fz1:W.frozen? ⟨w.heap.size+1,1,none⟩=false:=zfH hb 1;have gz1:=zcH hb 1;simp only[List.getElem?_toArray,List.getElem?_cons_zero,List.getElem?_cons_succ] at gz1;have fz2:W.frozen? ⟨w.heap.size+1,2,none⟩=false:=zfH hb 2;have gz2:=zcH hb 2;simp only[List.getElem?_toArray,List.getElem?_cons_zero,List.getElem?_cons_succ] at gz2;go_simp
    refine hK undef _ trivial ⟨(RowAt.set_und (RowAt.set_und (RowAt.set_und hI.1 (by simp) 0 (.int .i64 k)) (by simp) 1 (.string ⟨t.toArray⟩)) (by simp) 2 (.int .i64 0)),by
     have h3:=(heap_setCell_same _ (w.heap.size+1) 2 _ _ (.int .i64 0) (heap_setCell_same _ (w.heap.size+1) 1 _ _ (.string ⟨t.toArray⟩) (heap_setCell_same _ (w.heap.size+1) 0 _ _ (.int .i64 k) hb)));rw[if_pos (by simp[updB])]
     exact h3⟩ (fun _ _=>trivial)
   refine ObsF.cons (fun ρ L W hR hI hL hD hO hF K hK=>?_) ?_
   ·skip
    have f6:=allF_get hF (j:=6) (by decide);clear hF hD hO;simp only[Act.put,zsA,zsB,zsC] at hK ⊢;have e6:ρ 6=.bool b:=f6;rw[e6] at hK ⊢;go_simp;refine hK _ _ trivial ⟨hI.1,by simpa [updB] using hI.2⟩ (fun W2 h2=>?_);rfl
   exact ObsF.nil
  case hend=>
   intro ρ L W hR hI hL hF;have hLS:L 7=true:=hL 7 (by decide);have hu0:=hI.1;have hb:W.heap[w.heap.size+1]?=some (.cells #[.int .i64 k,.string ⟨t.toArray⟩,.int .i64 0] 104 (0,0)):=by simpa [hLS] using hI.2
   have e8:ρ 8=.bool b:=by
    obtain⟨_,_,_,_,_,_,_,_,h,_⟩:=hF;exact h
   rw[e8];clear e8;clear hR hL hF hI hLS;have d0:W.cell? ⟨w.heap.size+1,0,none⟩=some (.int .i64 k):=zcH hb 0;have d1:W.cell? ⟨w.heap.size+1,1,none⟩=some (.string ⟨t.toArray⟩):=zcH hb 1;have d2:W.cell? ⟨w.heap.size+1,2,none⟩=some (.int .i64 0):=zcH hb 2;haveI:LtW (w.heap.size+1) W:=LtW.of (lt_of_heap hb);have HU:=hid (((Und.refl w).alloc _).trans hu0);clear hb hu0;go_wp2;refine bodyPost_ret (v:=.tuple #[.agg #[.int .i64 k,.string ⟨t.toArray⟩,.int .i64 0],.bool b]) ?_ rfl ?_
   ·simp[results,Tryz.results137,go_sem,d0,d1,d2]
   ·exact⟨rfl,HU.out⟩
end
section
namespace St
theorem bl_irr:∀ x:List UInt8,Op.bytesLess x x=false
 | []=>rfl
 | a :: x=>by
  rw[Op.bytesLess,bl_irr x];simp
theorem bl_tri:∀ x y:List UInt8,Op.bytesLess x y=true∨x=y∨Op.bytesLess y x=true
 | [],[]=>.inr (.inl rfl)
 | [],_ :: _=>.inl rfl
 | _ :: _,[]=>.inr (.inr rfl)
 | a :: x,b :: y=>by
  rw[Op.bytesLess,Op.bytesLess];rcases bl_tri x y with h|h|h
  ·by_cases e:a=b
   ·subst e;simp[h]
   ·rcases(show a<b∨b<a by
     have:a.toNat ≠ b.toNat:=fun h=>e (UInt8.toNat_inj.1 h)
     simp only[UInt8.lt_iff_toNat_lt];omega) with h1|h1
    ·simp[h1]
    ·simp[h1]
  ·subst h
   by_cases e:a=b
   ·subst e;simp
   ·rcases(show a<b∨b<a by
     have:a.toNat ≠ b.toNat:=fun h=>e (UInt8.toNat_inj.1 h)
     simp only[UInt8.lt_iff_toNat_lt];omega) with h1|h1
    ·simp[h1]
    ·simp[h1]
  ·by_cases e:a=b
   ·subst e;simp[h]
   ·rcases(show a<b∨b<a by
     have:a.toNat ≠ b.toNat:=fun h=>e (UInt8.toNat_inj.1 h)
     simp only[UInt8.lt_iff_toNat_lt];omega) with h1|h1
    ·simp[h1]
    ·simp[h1]
theorem bl_trans:∀ x y z:List UInt8,Op.bytesLess x y=true->Op.bytesLess y z=true->Op.bytesLess x z=true
 | _,[],_,h,_=>by cases ‹List UInt8› <;> simp[Op.bytesLess] at h
 | _,_ :: _,[],_,h=>by simp[Op.bytesLess] at h
 | [],_ :: _,_ :: _,_,_=>rfl
 | a :: x,b :: y,c :: z,h1,h2=>by
  rw[Op.bytesLess] at h1 h2 ⊢;simp only[Bool.or_eq_true,Bool.and_eq_true,decide_eq_true_eq,beq_iff_eq,UInt8.lt_iff_toNat_lt] at h1 h2 ⊢;rcases h1 with h1|⟨rfl,h1⟩
  ·rcases h2 with h2|⟨rfl,h2⟩
   ·exact .inl (by omega)
   ·exact .inl h1
  ·rcases h2 with h2|⟨rfl,h2⟩
   ·exact .inl h2
   ·exact .inr ⟨rfl,bl_trans x y z h1 h2⟩
def cmpL(s t:List UInt8):Int:=if Op.bytesLess s t then -1 else if s==t then 0 else 1
def cmpP(x y:Wd × Wd):Int:=if cmpL x.1 y.1=0 then cmpL x.2 y.2 else cmpL x.1 y.1
theorem cmpL_neg(s t:List UInt8):cmpL s t<0 ↔ Op.bytesLess s t=true:=by
 unfold cmpL
 split
 ·simp_all
 ·split <;> simp_all
theorem cmpL_zero(s t:List UInt8):cmpL s t=0 ↔ s=t:=by
 unfold cmpL
 split
 ·rename_i h
  constructor
  ·intro h';simp at h'
  ·rintro rfl;rw[bl_irr] at h;cases h
 ·split <;> simp_all
def ltP(x y:Wd × Wd):Prop:=Op.bytesLess x.1 y.1=true∨(x.1=y.1/\Op.bytesLess x.2 y.2=true)
theorem cmpP_neg(x y:Wd × Wd):cmpP x y<0 ↔ ltP x y:=by
 unfold cmpP ltP
 split
 ·rename_i h
  rw[cmpL_zero] at h;rw[cmpL_neg,h,bl_irr];simp
 ·rename_i h
  rw[cmpL_zero] at h;rw[cmpL_neg];exact⟨.inl,fun h'=>h'.elim id fun h'=>absurd h'.1 h⟩
theorem ltP_irr(x:Wd × Wd):¬ ltP x x:=by
 rintro (h|⟨_,h⟩) <;> (rw[bl_irr] at h;cases h)
theorem ltP_trans{x y z:Wd × Wd}(h:ltP x y)(k:ltP y z):ltP x z:=by
 rcases h with h|⟨h1,h2⟩
 ·rcases k with k|⟨k1,k2⟩
  ·exact .inl (bl_trans _ _ _ h k)
  ·exact .inl (k1 ▸ h)
 ·rcases k with k|⟨k1,k2⟩
  ·exact .inl (h1 ▸ k)
  ·exact .inr ⟨h1.trans k1,bl_trans _ _ _ h2 k2⟩
theorem ltP_tri(x y:Wd × Wd):ltP x y∨x=y∨ltP y x:=by
 rcases bl_tri x.1 y.1 with h|h|h
 ·exact .inl (.inl h)
 ·rcases bl_tri x.2 y.2 with k|k|k
  ·exact .inl (.inr ⟨h,k⟩)
  ·exact .inr (.inl (Prod.ext h k))
  ·exact .inr (.inr (.inr ⟨h.symm,k⟩))
 ·exact .inr (.inr (.inl h))
theorem ltP_ntrans{x y z:Wd × Wd}(h:¬ ltP x y)(k:¬ ltP y z):¬ ltP x z:=by
 intro hxz;rcases ltP_tri x y with h1|h1|h1
 ·exact h h1
 ·exact k (h1 ▸ hxz)
 ·exact k (ltP_trans h1 hxz)
end St
theorem nanS_any(s:ByteArray)(w:World):Calls Tryz.prog 131 #[.string s] w fun e w'=>e=.returned (.bool false)/\w'=w:=by
 go_enter Tryz.func131,Tryz.ntmps131;go_wp2;go_ret;exact⟨rfl,rfl⟩
theorem cmpS_any(s t:List UInt8)(w:World):Calls Tryz.prog 80 #[.string ⟨s.toArray⟩,.string ⟨t.toArray⟩] w fun e w'=>e=.returned (.int .i64 (St.cmpL s t))/\w'=w:=by
 have HN:=hid nanS_any;cases h1:Op.bytesLess s t with
 | true=>
  have hv:St.cmpL s t=-1:=by unfold St.cmpL;rw[if_pos h1]
  rw[hv];clear hv;go_enter Tryz.func80,Tryz.ntmps80;go_wp2_with (go_at_call 131;refine(HN.out _ _).mono ?_;rintro e w' ⟨rfl,rfl⟩);go_ret;exact⟨rfl,rfl⟩
 | false=>
  cases h2:s==t with
  | true=>
   have hv:St.cmpL s t=0:=by unfold St.cmpL;rw[if_neg (by rw[h1];simp),if_pos h2]
   rw[hv];clear hv;go_enter Tryz.func80,Tryz.ntmps80;go_wp2_with (go_at_call 131;refine(HN.out _ _).mono ?_;rintro e w' ⟨rfl,rfl⟩);go_ret;exact⟨rfl,rfl⟩
  | false=>
   have hv:St.cmpL s t=1:=by unfold St.cmpL;rw[if_neg (by rw[h1];simp),if_neg (by rw[h2];simp)]
   rw[hv];clear hv;go_enter Tryz.func80,Tryz.ntmps80;go_wp2_with (go_at_call 131;refine(HN.out _ _).mono ?_;rintro e w' ⟨rfl,rfl⟩);go_ret;exact⟨rfl,rfl⟩
theorem or2_any(b:Nat)(x y:Int)(w:World)(hb:b<w.heap.size)(h0:w.cell? ⟨b,0,none⟩=some (.int .i64 x))(h1:w.cell? ⟨b,1,none⟩=some (.int .i64 y)) :
  Calls Tryz.prog 42 #[.slice (some ⟨b,0,none⟩) 2 2] w fun e w'=>e=.returned (.int .i64 (if x=0 then y else x))/\w'=w:=by
 haveI:LtW b w:=LtW.of hb
 by_cases hx:x=0
 ·subst hx
  simp only[if_true]
  by_cases hy:y=0
  ·subst hy
   go_enter Tryz.func42,Tryz.ntmps42;go_wp2_with fail;refine wp_loop_rounds 3 ?_;rw[rounds_succ];go_wp2;rw[rounds_succ];go_wp2;rw[rounds_succ];go_wp2;go_ret;exact⟨rfl,rfl⟩
  ·have q:(y != 0)=true:=by simpa using hy
   clear hy;go_enter Tryz.func42,Tryz.ntmps42;go_wp2_with fail;refine wp_loop_rounds 3 ?_;rw[rounds_succ];go_wp2;rw[rounds_succ];go_wp2;go_ret;exact⟨rfl,rfl⟩
 ·rw[if_neg hx]
  have q:(x != 0)=true:=by simpa using hx
  clear hx;go_enter Tryz.func42,Tryz.ntmps42;go_wp2_with fail;refine wp_loop_rounds 3 ?_;rw[rounds_succ];go_wp2;go_ret;exact⟨rfl,rfl⟩
end
end Go.Proofs.YtcfhfdphoidaeaaGreatDoor
