/- The contracts of the parts' builder: NewParts, Unit, List. -/
import Derived.Test.YtcfhfdphoidaeaaGreatDoorGC
import Derived.Deep.RegionHeld3
import Derived.OrdersHeld
set_option linter.unusedVariables false
set_option linter.unusedSimpArgs false
set_option maxHeartbeats 12800000
set_option maxRecDepth 20000
namespace Go.Proofs.YtcfhfdphoidaeaaGreatDoor
open Go.RowKit
theorem rg_norm{P:Program}{md:Region.Mode}{ops:Array Oper}{Q:Exit->Act->World->Prop}{fuel:Nat}{l l':Array Bool}{a:Act}{w:World}(h:l=l')(hw:wpAny P md ops Q fuel l' a w):wpAny P md ops Q fuel l a w:=h ▸ hw
theorem rgH_norm{P:Program}{md:Region.Mode}{ops:Array Oper}{Q:Exit->Act->World->Prop}{S:World->Prop}{fuel:Nat}{l l':Array Bool}{a:Act}{w:World}(h:l=l')(hw:wpAnyH P md ops Q S fuel l' a w):wpAnyH P md ops Q S fuel l a w:=h ▸ hw
theorem hTk{P:Program}{md:Region.Mode}{ops:Array Oper}{Q:Exit->Act->World->Prop}{S:World->Prop}{fuel:Nat}{l l':Array Bool}{a a':Act}{w:World}{v:Value}(i:Nat)(oi:Oper)(hi:ops[i]?=some oi)(h:wpAnyH P md ops Q S fuel l' a' w)
  (hs:Region.noSelect ops=true:=by kernel_rfl) (hf:Region.free md ops l i=true:=by kernel_rfl) (hr:(Region.ready md ops l).contains i=true:=by kernel_rfl) (hQ:∀ c a w,Q (.panic c) (a.put oi.dst v) w->Q (.panic c) a w:=by exact fun _ _ _ h=>h)
  (hw:Region.wanted oi (yielded ops a.tmps)=true:=by rfl) (hy:∀ W,S W->(execOp a.eval oi).run P W=.ok (.value v) W:=by (intro _ hS9;have hS7:=hS9.1;have hS8:=hS9.2;clear hS9;go_simp;try with_reducible rfl))
  (hS:S w:=by (first|assumption|(refine⟨?_,?_⟩ <;> (first|assumption|(go_simp;done)))))
  (ha:a.put oi.dst v=a':=by (conv=>lhs;simp only[Act.put,zsA,zsB,zsC]))
  (hl:l.setIfInBounds i true=l':=by (conv=>lhs;simp only[zsA,zsB,zsC])):wpAnyH P md ops Q S (fuel+1) l a w:=
 wpAnyH_take hi hs hf hr hQ (Or.inl ⟨hw,hy⟩) hS (by rw[ha,hl];exact h)
def AllReadyH(P:Program)(md:Region.Mode)(ops:Array Oper)(Q:Exit->Act->World->Prop)(S:World->Prop)(fuel:Nat)(listed:Array Bool)(a:Act)(w:World)(rs:List Nat):Prop:=
 ∀ i ∈ rs,wpOp P ops Q i (fun a' w'=>S w'/\wpAnyH P md ops Q S fuel (listed.setIfInBounds i true) a' w') a w
theorem AllReadyH.nil{P:Program}{md:Region.Mode}{ops:Array Oper}{Q:Exit->Act->World->Prop}{S:World->Prop}{fuel:Nat}{listed:Array Bool}{a:Act}{w:World}:AllReadyH P md ops Q S fuel listed a w []:=fun _ h=>by cases h
theorem AllReadyH.cons{P:Program}{md:Region.Mode}{ops:Array Oper}{Q:Exit->Act->World->Prop}{S:World->Prop}{fuel:Nat}{listed:Array Bool}{a:Act}{w:World}{i:Nat}{o:Oper}{rs:List Nat}(ho:ops[i]?=some o)
  (h:∀ K':Act->World->Prop,(∀ a w,(S w/\wpAnyH P md ops Q S fuel (listed.setIfInBounds i true) a w)->K' a w)->if Region.wanted o (yielded ops a.tmps)=true then Oper.wp P o a w K' Q else K' (a.put o.dst undef) w)
  (hs:AllReadyH P md ops Q S fuel listed a w rs):AllReadyH P md ops Q S fuel listed a w (i :: rs):=fun j hj=>by
 rcases List.mem_cons.1 hj with rfl|hj
 ·exact wpOp_step ho h
 ·exact hs j hj
theorem wpAnyH_ready{P:Program}{md:Region.Mode}{ops:Array Oper}{Q:Exit->Act->World->Prop}{S:World->Prop}{rs:List Nat}{fuel:Nat}{listed:Array Bool}{a:Act}{w:World}(hr:Region.ready md ops listed=rs)(hne:rs ≠ [])
  (h:AllReadyH P md ops Q S fuel listed a w rs):wpAnyH P md ops Q S (fuel+1) listed a w:=wpAnyH_all hr hne h
theorem side6(w2:World)(a b c d x y:Value)(e:TypeId)(g:Nat)(hb:g=w2.heap.size):∀ j u,[a,b,c,d,x,y][j]?=some u->(w2.alloc (.cells #[a,b,c,d,x,y] e)).cell? ((⟨g,0,none⟩:Addr).add j)=some u:=by
 subst hb;intro j u hj
 match j,hj with
 | 0,hj=>simp at hj;subst hj;simp[Addr.add]
 | 1,hj=>simp at hj;subst hj;simp[Addr.add]
 | 2,hj=>simp at hj;subst hj;simp[Addr.add]
 | 3,hj=>simp at hj;subst hj;simp[Addr.add]
 | 4,hj=>simp at hj;subst hj;simp[Addr.add]
 | 5,hj=>simp at hj;subst hj;simp[Addr.add]
 | j+6,hj=>simp at hj
theorem part_one(b c:Bool)(s t x y:ByteArray):∀ u ∈ [Value.bool b,Value.string s,Value.string t,Value.bool c,Value.string x,Value.string y],u.oneCell'=true:=by
 intro u hu;simp at hu;rcases hu with rfl|rfl|rfl|rfl|rfl|rfl <;> rfl
theorem part_one1(b:Bool)(s t:ByteArray):∀ u ∈ [Value.bool b,Value.string s,Value.string t],u.oneCell'=true:=by
 intro u hu;simp at hu;rcases hu with rfl|rfl|rfl <;> rfl
def MKept(w w':World):Prop:=∀ (k:Nat) es n,w.heap[k]?=some (.map es n)->w'.heap[k]?=some (.map es n)
theorem MKept.trans{a b c:World}(h:MKept a b)(k:MKept b c):MKept a c:=fun i es n hi=>k i es n (h i es n hi)
theorem mk_grown{w w':World}{row:Option Nat}(h:w.grownBy w' row)(hr:∀ g,row=some g->∃ cs T fr,w.heap[g]?=some (.cells cs T fr)/\T ∈ ptT):MKept w w':=by
 intro k es n hk;refine(h.block k (lt_of_heap hk) fun e=>?_).trans hk;obtain⟨cs,T,fr,h1,_⟩:=hr k e.symm;rw[hk] at h1;cases h1
theorem mk_set{w:World}{p:Addr}{v:Value}{cs:Array Value}{T:TypeId}{fr:Nat × Nat}(hb:w.heap[p.block]?=some (.cells cs T fr)):MKept w (w.setCell p v):=by
 intro k es n hk;unfold World.setCell;simp only[Array.getElem?_modify];rw[if_neg]
 ·exact hk
 ·intro e
  subst e;rw[hb] at hk;cases hk
theorem unit_all(w:World)(B pb:Nat)(d key:ByteArray)(s:St.PS)(a b:Nat)(h:PV w B pb d s)(h1:s.2<=a)(h2:a<=b)(h3:b<=d.size)(hd:d.size<=4611686018427387904)(hl:s.1.length<=1000000)(hBw:B<=w.heap.size) :
  Calls Tryz.prog 160 #[.pointer (some ⟨pb,0,none⟩),.int .i64 a,.int .i64 b,.string key] w fun e w'=>e=.returned (.tuple #[])/\PV w' B pb d (St.unitS d.data.toList s a b key.data.toList)/\Below B w w'/\TKept ptT w w'/\MKept w w':=by
 obtain⟨hB,v,hbk,hown⟩:=h;obtain⟨ps,fr⟩:=s;simp only at hbk hown h1 hl;obtain⟨A,c,rfl,_⟩:=own_slice hown;have g0:w.cell? ⟨pb,0,none⟩=some (.string d):=zcH hbk 0;have g1:w.cell? ⟨pb,1,none⟩=some (.int .i64 fr):=zcH hbk 1;have g2:w.cell? ⟨pb,2,none⟩=some (.slice A ps.length c):=zcH hbk 2;haveI:LtW pb w:=LtW.of (lt_of_heap hbk);obtain⟨i0,hi,hz0,hz1,hz2⟩:=info_parts info_part;obtain⟨s1,hE1⟩:∃ s1,d.extract fr a=s1:=⟨_,rfl⟩;obtain⟨s2,hE2⟩:∃ s2,d.extract a b=s2:=⟨_,rfl⟩;have y1:(0:Int)<=fr:=by omega
 have y2:(fr:Int)<=a:=by omega
 have y3:(a:Int)<=b:=by omega
 have y4:(b:Int)<=d.size:=by omega
 have y5:(a:Int)<=d.size:=by omega
 have HO:=hid hown;have HB:=hid hB;have HK:=hid hbk
 have hcl:cellsP (ps++[(false,[],St.cutL d.data.toList fr a),(true,key.data.toList,St.cutL d.data.toList a b)])=cellsP ps++[.bool false,.string ⟨#[]⟩,.string s1,.bool true,.string key,.string s2]:=by
  rw[cellsP_app];simp only[cellsP,List.flatMap_cons,List.flatMap_nil,List.append_nil,cut_arr,ba_eta,hE1,hE2];rfl
 have HCL:=hid hcl;generalize hn:ps.length=n at *;clear hown hbk hB hcl;go_enter Tryz.func160,Tryz.ntmps160;go_wp2_with fail;refine wp_region_any (by kernel_rfl) ?_
 try (change wpAny _ _ _ _ _ _ _ (World.drew _))
 refine rg_norm (l':=#[bF,bF,bF,bF,bF,bF,bF,bF,bF,bF,bF,bF,bF,bF,bF,bF,bF,bF,bF,bF,bF,bF,bF,bF,bF,bF,bF,bF,bF,bF]) (by kernel_rfl) ?_;refine wpAny_of_held (S:=fun W=>W.cell? ⟨pb,0,none⟩=some (.string d)/\W.cell? ⟨pb,1,none⟩=some (.int .i64 fr)) _ _ _ _ ?_;refine hTk 0 ⟨some 8,_,_,_,_,_⟩ rfl ?_;refine hTk 1 ⟨some 9,_,_,_,_,_⟩ rfl ?_;refine hTk 2 ⟨some 10,_,_,_,_,_⟩ rfl ?_;refine hTk 3 ⟨some 11,_,_,_,_,_⟩ rfl ?_;refine hTk 5 ⟨some 13,_,_,_,_,_⟩ rfl ?_;refine hTk 6 ⟨some 14,_,_,_,_,_⟩ rfl ?_;refine hTk 7 ⟨some 15,_,_,_,_,_⟩ rfl ?_;refine hTk 8 ⟨some 16,_,_,_,_,_⟩ rfl ?_;refine hTk 9 ⟨some 17,_,_,_,_,_⟩ rfl ?_;refine hTk 10 ⟨some 18,_,_,_,_,_⟩ rfl ?_;refine hTk 11 ⟨some 19,_,_,_,_,_⟩ rfl ?_;refine hTk 12 ⟨some 20,_,_,_,_,_⟩ rfl ?_;refine hTk 13 ⟨some 21,_,_,_,_,_⟩ rfl ?_;refine hTk 14 ⟨some 22,_,_,_,_,_⟩ rfl ?_;refine hTk 15 ⟨some 23,_,_,_,_,_⟩ rfl ?_;refine hTk 16 ⟨some 24,_,_,_,_,_⟩ rfl ?_;refine hTk 17 ⟨some 25,_,_,_,_,_⟩ rfl ?_;refine hTk 18 ⟨some 26,_,_,_,_,_⟩ rfl ?_;refine hTk 19 ⟨some 27,_,_,_,_,_⟩ rfl ?_;refine hTk 20 ⟨some 28,_,_,_,_,_⟩ rfl ?_;refine hTk 21 ⟨some 29,_,_,_,_,_⟩ rfl ?_;refine hTk 22 ⟨some 30,_,_,_,_,_⟩ rfl ?_;refine hTk 23 ⟨some 31,_,_,_,_,_⟩ rfl ?_;refine hTk 24 ⟨some 32,_,_,_,_,_⟩ rfl ?_;refine wpAnyH_ready (rs:=[4,25]) (by kernel_rfl) (by simp) ?_;refine AllReadyH.cons (o:=⟨some 12,_,_,_,_,_⟩) rfl (fun K hK=>?_) ?_
 ·skip
  go_simp;refine hK _ _ ⟨?_,?_⟩
  ·clear hK K;first|assumption|exact⟨e0,e1⟩|(refine⟨?_,?_⟩ <;> (go_simp;done))
  clear hK K
  conv=>arg 8;simp only[Act.put,zsA,zsB,zsC]
  refine rgH_norm (l':=#[bT,bT,bT,bT,bT,bT,bT,bT,bT,bT,bT,bT,bT,bT,bT,bT,bT,bT,bT,bT,bT,bT,bT,bT,bT,bF,bF,bF,bF,bF]) (by kernel_rfl) ?_;refine wpAnyH_ready (rs:=[25]) (by kernel_rfl) (by simp) ?_;refine AllReadyH.cons (o:=⟨some 33,_,_,_,_,_⟩) rfl (fun K hK=>?_) AllReadyH.nil;go_simp;refine hK _ _ ⟨?_,?_⟩
  ·clear hK K;first|assumption|exact⟨e0,e1⟩|(refine⟨?_,?_⟩ <;> (go_simp;done))
  clear hK K
  conv=>arg 8;simp only[Act.put,zsA,zsB,zsC]
  refine rgH_norm (l':=#[bT,bT,bT,bT,bT,bT,bT,bT,bT,bT,bT,bT,bT,bT,bT,bT,bT,bT,bT,bT,bT,bT,bT,bT,bT,bT,bF,bF,bF,bF]) (by kernel_rfl) ?_;refine wpAnyH_ready (rs:=[26]) (by kernel_rfl) (by simp) ?_;refine AllReadyH.cons (o:=⟨some 34,_,_,_,_,_⟩) rfl (fun K hK=>?_) AllReadyH.nil;refine step_append_own rfl (.tmp 12) (.tmp 33) 50 rfl B 110 i0 (.agg #[.bool false,.string ⟨#[]⟩,.string ⟨#[]⟩]) 3 40 Tryz.underlying50 hi hz0 hz1 hz2 rfl (by decide) (.slice A n c) n _ rfl (owns_und (HO.out.alloc (.cells #[.bool false,.string ⟨#[]⟩,.string s1,.bool true,.string key,.string s2] 110)) (Und.refl _).drew) ⟨w.heap.size,0,none⟩ 2 2 [.bool false,.string ⟨#[]⟩,.string s1,.bool true,.string key,.string s2] rfl rfl (side6 w _ _ _ _ _ _ 110 _ rfl) (part_one _ _ _ _ _ _) (by unfold maxLen;omega) (by omega) (by simp;omega) ?_;intro v' w1 hown' hgrow _;have hgr:=gb_trans (Und.gb ((by apply_rules[uUe,uUa,uUb,uUc,uUd]):Und w (w.alloc (.cells #[.bool false,.string ⟨#[]⟩,.string s1,.bool true,.string key,.string s2] 110)).drew) (Value.slice A n c).ownBlock) hgrow (fun g e=>Or.inl e);have hb4:w1.heap[pb]?=_:=(hgr.block pb (lt_of_heap HK.out) (fun e=>own_ne HO.out HK.out (by decide) e.symm)).trans HK.out;have e0:w1.cell? ⟨pb,0,none⟩=some (.string d):=zcH hb4 0;have e1:w1.cell? ⟨pb,1,none⟩=some (.int .i64 fr):=zcH hb4 1;have e2:w1.cell? ⟨pb,2,none⟩=some (.slice A n c):=zcH hb4 2;have f1:w1.frozen? ⟨pb,1,none⟩=false:=zfH hb4 1;have f2:w1.frozen? ⟨pb,2,none⟩=false:=zfH hb4 2;haveI:LtW pb w1:=LtW.of (lt_of_heap hb4);obtain⟨A',c',rfl,_⟩:=own_slice hown';refine hK _ _ ⟨?_,?_⟩
  ·clear hK K;first|assumption|exact⟨e0,e1⟩|(refine⟨?_,?_⟩ <;> (go_simp;done))
  clear hK K
  conv=>arg 8;simp only[Act.put,zsA,zsB,zsC]
  refine rgH_norm (l':=#[bT,bT,bT,bT,bT,bT,bT,bT,bT,bT,bT,bT,bT,bT,bT,bT,bT,bT,bT,bT,bT,bT,bT,bT,bT,bT,bT,bF,bF,bF]) (by kernel_rfl) ?_;refine hTk 27 ⟨some 35,_,_,_,_,_⟩ rfl ?_;refine hTk 28 ⟨some 36,_,_,_,_,_⟩ rfl ?_;refine wpAnyH_ready (rs:=[29]) (by kernel_rfl) (by simp) ?_;refine AllReadyH.cons (o:=⟨none,_,_,_,_,_⟩) rfl (fun K hK=>?_) AllReadyH.nil;go_simp;refine hK _ _ ⟨?_,?_⟩
  ·clear hK K;first|assumption|exact⟨e0,e1⟩|(refine⟨?_,?_⟩ <;> (go_simp;done))
  clear hK K
  conv=>arg 8;simp only[Act.put,zsA,zsB,zsC]
  refine rgH_norm (l':=#[bT,bT,bT,bT,bT,bT,bT,bT,bT,bT,bT,bT,bT,bT,bT,bT,bT,bT,bT,bT,bT,bT,bT,bT,bT,bT,bT,bT,bT,bT]) (by kernel_rfl) ?_;refine wpAnyH_done (by kernel_rfl) ?_ _
  have hPV:PV ((w1.setCell ⟨pb,2,none⟩ (.slice A' (n+2) c')).setCell ⟨pb,1,none⟩ (.int .i64 b)) B pb d (ps++[(false,[],St.cutL d.data.toList fr a),(true,key.data.toList,St.cutL d.data.toList a b)],b):=by
   refine⟨HB.out,.slice A' (n+2) c',heap_setCell_same _ pb 1 _ _ _ (heap_setCell_same _ pb 2 _ _ _ hb4),?_⟩;refine own_set (own_set ?_ (own_ne hown' hb4 (by decide))) (own_ne hown' hb4 (by decide));rw[HCL.out,List.length_append,hn];exact hown'
  have hbl:Below B w ((w1.setCell ⟨pb,2,none⟩ (.slice A' (n+2) c')).setCell ⟨pb,1,none⟩ (.int .i64 b)):=(below_step (Below.refl B w) hBw hgr (fun g hg=>owns_block HO.out g hg) HB.out).setCell (p:=⟨pb,1,none⟩) HB.out _
  have htk:TKept ptT w ((w1.setCell ⟨pb,2,none⟩ (.slice A' (n+2) c')).setCell ⟨pb,1,none⟩ (.int .i64 b)):=
   ((tk_grown hgr (own_type HO.out _ (by simp[ptT]))).trans (tk_set (p:=⟨pb,2,none⟩) hb4 (by simp[ptT]))).trans (tk_set (p:=⟨pb,1,none⟩) (heap_setCell_same _ pb 2 _ _ _ hb4) (by simp[ptT]))
  have hmk:MKept w ((w1.setCell ⟨pb,2,none⟩ (.slice A' (n+2) c')).setCell ⟨pb,1,none⟩ (.int .i64 b)):=
   ((mk_grown hgr (own_type HO.out _ (by simp[ptT]))).trans (mk_set (p:=⟨pb,2,none⟩) hb4)).trans (mk_set (p:=⟨pb,1,none⟩) (heap_setCell_same _ pb 2 _ _ _ hb4))
  have HE:=hid (And.intro hPV (And.intro hbl (And.intro htk hmk)));clear hPV hbl htk hmk hb4 hgr hgrow hown';go_wp2;go_end0;exact⟨rfl,HE.out.1,HE.out.2.1,HE.out.2.2.1,HE.out.2.2.2⟩
 refine AllReadyH.cons (o:=⟨some 33,_,_,_,_,_⟩) rfl (fun K hK=>?_) ?_
 ·skip
  go_simp;refine hK _ _ ⟨?_,?_⟩
  ·clear hK K;first|assumption|exact⟨e0,e1⟩|(refine⟨?_,?_⟩ <;> (go_simp;done))
  clear hK K
  conv=>arg 8;simp only[Act.put,zsA,zsB,zsC]
  refine rgH_norm (l':=#[bT,bT,bT,bT,bF,bT,bT,bT,bT,bT,bT,bT,bT,bT,bT,bT,bT,bT,bT,bT,bT,bT,bT,bT,bT,bT,bF,bF,bF,bF]) (by kernel_rfl) ?_;refine wpAnyH_ready (rs:=[4]) (by kernel_rfl) (by simp) ?_;refine AllReadyH.cons (o:=⟨some 12,_,_,_,_,_⟩) rfl (fun K hK=>?_) AllReadyH.nil;go_simp;refine hK _ _ ⟨?_,?_⟩
  ·clear hK K;first|assumption|exact⟨e0,e1⟩|(refine⟨?_,?_⟩ <;> (go_simp;done))
  clear hK K
  conv=>arg 8;simp only[Act.put,zsA,zsB,zsC]
  refine rgH_norm (l':=#[bT,bT,bT,bT,bT,bT,bT,bT,bT,bT,bT,bT,bT,bT,bT,bT,bT,bT,bT,bT,bT,bT,bT,bT,bT,bT,bF,bF,bF,bF]) (by kernel_rfl) ?_;refine wpAnyH_ready (rs:=[26]) (by kernel_rfl) (by simp) ?_;refine AllReadyH.cons (o:=⟨some 34,_,_,_,_,_⟩) rfl (fun K hK=>?_) AllReadyH.nil;refine step_append_own rfl (.tmp 12) (.tmp 33) 50 rfl B 110 i0 (.agg #[.bool false,.string ⟨#[]⟩,.string ⟨#[]⟩]) 3 40 Tryz.underlying50 hi hz0 hz1 hz2 rfl (by decide) (.slice A n c) n _ rfl (owns_und (HO.out.alloc (.cells #[.bool false,.string ⟨#[]⟩,.string s1,.bool true,.string key,.string s2] 110)) (Und.refl _).drew) ⟨w.heap.size,0,none⟩ 2 2 [.bool false,.string ⟨#[]⟩,.string s1,.bool true,.string key,.string s2] rfl rfl (side6 w _ _ _ _ _ _ 110 _ rfl) (part_one _ _ _ _ _ _) (by unfold maxLen;omega) (by omega) (by simp;omega) ?_;intro v' w1 hown' hgrow _;have hgr:=gb_trans (Und.gb ((by apply_rules[uUe,uUa,uUb,uUc,uUd]):Und w (w.alloc (.cells #[.bool false,.string ⟨#[]⟩,.string s1,.bool true,.string key,.string s2] 110)).drew) (Value.slice A n c).ownBlock) hgrow (fun g e=>Or.inl e);have hb4:w1.heap[pb]?=_:=(hgr.block pb (lt_of_heap HK.out) (fun e=>own_ne HO.out HK.out (by decide) e.symm)).trans HK.out;have e0:w1.cell? ⟨pb,0,none⟩=some (.string d):=zcH hb4 0;have e1:w1.cell? ⟨pb,1,none⟩=some (.int .i64 fr):=zcH hb4 1;have e2:w1.cell? ⟨pb,2,none⟩=some (.slice A n c):=zcH hb4 2;have f1:w1.frozen? ⟨pb,1,none⟩=false:=zfH hb4 1;have f2:w1.frozen? ⟨pb,2,none⟩=false:=zfH hb4 2;haveI:LtW pb w1:=LtW.of (lt_of_heap hb4);obtain⟨A',c',rfl,_⟩:=own_slice hown';refine hK _ _ ⟨?_,?_⟩
  ·clear hK K;first|assumption|exact⟨e0,e1⟩|(refine⟨?_,?_⟩ <;> (go_simp;done))
  clear hK K
  conv=>arg 8;simp only[Act.put,zsA,zsB,zsC]
  refine rgH_norm (l':=#[bT,bT,bT,bT,bT,bT,bT,bT,bT,bT,bT,bT,bT,bT,bT,bT,bT,bT,bT,bT,bT,bT,bT,bT,bT,bT,bT,bF,bF,bF]) (by kernel_rfl) ?_;refine hTk 27 ⟨some 35,_,_,_,_,_⟩ rfl ?_;refine hTk 28 ⟨some 36,_,_,_,_,_⟩ rfl ?_;refine wpAnyH_ready (rs:=[29]) (by kernel_rfl) (by simp) ?_;refine AllReadyH.cons (o:=⟨none,_,_,_,_,_⟩) rfl (fun K hK=>?_) AllReadyH.nil;go_simp;refine hK _ _ ⟨?_,?_⟩
  ·clear hK K;first|assumption|exact⟨e0,e1⟩|(refine⟨?_,?_⟩ <;> (go_simp;done))
  clear hK K
  conv=>arg 8;simp only[Act.put,zsA,zsB,zsC]
  refine rgH_norm (l':=#[bT,bT,bT,bT,bT,bT,bT,bT,bT,bT,bT,bT,bT,bT,bT,bT,bT,bT,bT,bT,bT,bT,bT,bT,bT,bT,bT,bT,bT,bT]) (by kernel_rfl) ?_;refine wpAnyH_done (by kernel_rfl) ?_ _
  have hPV:PV ((w1.setCell ⟨pb,2,none⟩ (.slice A' (n+2) c')).setCell ⟨pb,1,none⟩ (.int .i64 b)) B pb d (ps++[(false,[],St.cutL d.data.toList fr a),(true,key.data.toList,St.cutL d.data.toList a b)],b):=by
   refine⟨HB.out,.slice A' (n+2) c',heap_setCell_same _ pb 1 _ _ _ (heap_setCell_same _ pb 2 _ _ _ hb4),?_⟩;refine own_set (own_set ?_ (own_ne hown' hb4 (by decide))) (own_ne hown' hb4 (by decide));rw[HCL.out,List.length_append,hn];exact hown'
  have hbl:Below B w ((w1.setCell ⟨pb,2,none⟩ (.slice A' (n+2) c')).setCell ⟨pb,1,none⟩ (.int .i64 b)):=(below_step (Below.refl B w) hBw hgr (fun g hg=>owns_block HO.out g hg) HB.out).setCell (p:=⟨pb,1,none⟩) HB.out _
  have htk:TKept ptT w ((w1.setCell ⟨pb,2,none⟩ (.slice A' (n+2) c')).setCell ⟨pb,1,none⟩ (.int .i64 b)):=
   ((tk_grown hgr (own_type HO.out _ (by simp[ptT]))).trans (tk_set (p:=⟨pb,2,none⟩) hb4 (by simp[ptT]))).trans (tk_set (p:=⟨pb,1,none⟩) (heap_setCell_same _ pb 2 _ _ _ hb4) (by simp[ptT]))
  have hmk:MKept w ((w1.setCell ⟨pb,2,none⟩ (.slice A' (n+2) c')).setCell ⟨pb,1,none⟩ (.int .i64 b)):=
   ((mk_grown hgr (own_type HO.out _ (by simp[ptT]))).trans (mk_set (p:=⟨pb,2,none⟩) hb4)).trans (mk_set (p:=⟨pb,1,none⟩) (heap_setCell_same _ pb 2 _ _ _ hb4))
  have HE:=hid (And.intro hPV (And.intro hbl (And.intro htk hmk)));clear hPV hbl htk hmk hb4 hgr hgrow hown';go_wp2;go_end0;exact⟨rfl,HE.out.1,HE.out.2.1,HE.out.2.2.1,HE.out.2.2.2⟩
 exact AllReadyH.nil
def PartsAt(w:World)(A:Option Addr)(f:List St.Pt):Prop:=
 f.length > 0->∃ b off,A=some ⟨b,off,none⟩/\b<w.heap.size/\∀ j (h:j<f.length),w.cell? ⟨b,off+j*3,none⟩=some (.bool f[j].1)/\w.cell? ⟨b,off+j*3+1,none⟩=some (.string ⟨f[j].2.1.toArray⟩)/\w.cell? ⟨b,off+j*3+2,none⟩=some (.string ⟨f[j].2.2.toArray⟩)
theorem PartsAt.und{w w':World}{A:Option Addr}{f:List St.Pt}(h:PartsAt w A f)(u:Und w w'):PartsAt w' A f:=by
 intro h0;obtain⟨b,off,rfl,hb,hc⟩:=h h0;refine⟨b,off,rfl,Nat.lt_of_lt_of_le hb u.size,fun j hj=>?_⟩;obtain⟨c0,c1,c2⟩:=hc j hj;exact⟨(u.cell hb).trans c0,(u.cell hb).trans c1,(u.cell hb).trans c2⟩
theorem cellsP_at(f:List St.Pt)(j:Nat)(h:j<f.length):(cellsP f)[j*3]?=some (.bool f[j].1)/\(cellsP f)[j*3+1]?=some (.string ⟨f[j].2.1.toArray⟩)/\(cellsP f)[j*3+2]?=some (.string ⟨f[j].2.2.toArray⟩):=by
 induction f generalizing j with
 | nil=>simp at h
 | cons x f ih=>
  match j,h with
  | 0,_=>exact⟨rfl,rfl,rfl⟩
  | j+1,h=>
   obtain⟨a,b,c⟩:=ih j (by simpa using h);have e:(j+1)*3=j*3+3:=by omega
   rw[e];exact⟨a,b,c⟩
theorem parts_own{w:World}{B n c:Nat}{A:Option Addr}{f:List St.Pt}(h:w.ownsRow B 110 3 (.slice A n c) n (cellsP f))(hn:f.length=n):PartsAt w A f:=by
 intro h0;obtain⟨g,rfl,_,hg,hc⟩:=own_cell h (by omega);refine⟨g,0,rfl,hg,fun j hj=>?_⟩;obtain⟨a,b,c⟩:=cellsP_at f j hj;rw[Nat.zero_add];exact⟨hc _ _ a,hc _ _ b,hc _ _ c⟩
theorem list_any(w:World)(B pb:Nat)(d:ByteArray)(s:St.PS)(h:PV w B pb d s)(h1:s.2<=d.size)(hd:d.size<=4611686018427387904)(hl:s.1.length<=1000000)(hBw:B<=w.heap.size) :
  Calls Tryz.prog 162 #[.pointer (some ⟨pb,0,none⟩)] w fun e w'=>∃ A c,e=.returned (.slice A (s.1.length+1) c)/\PartsAt w' A (St.endS d.data.toList s)/\s.1.length+1<=c/\c<=9223372036854775807/\Below B w w':=by
 obtain⟨hB,v,hbk,hown⟩:=h;obtain⟨ps,fr⟩:=s;simp only at hbk hown h1 hl;obtain⟨A,c,rfl,_⟩:=own_slice hown;have g0:w.cell? ⟨pb,0,none⟩=some (.string d):=zcH hbk 0;have g1:w.cell? ⟨pb,1,none⟩=some (.int .i64 fr):=zcH hbk 1;have g2:w.cell? ⟨pb,2,none⟩=some (.slice A ps.length c):=zcH hbk 2;haveI:LtW pb w:=LtW.of (lt_of_heap hbk);obtain⟨i0,hi,hz0,hz1,hz2⟩:=info_parts info_part;obtain⟨s1,hE1⟩:∃ s1,d.extract fr d.size=s1:=⟨_,rfl⟩;have y1:(0:Int)<=fr:=by omega
 have y2:(fr:Int)<=d.size:=by omega
 have HO:=hid hown;have HK:=hid hbk
 have hcl:cellsP (St.endS d.data.toList (ps,fr))=cellsP ps++[.bool false,.string ⟨#[]⟩,.string s1]:=by
  have h0:(⟨(d.data.toList.drop fr).toArray⟩:ByteArray)=s1:=by
   rw[<- hE1,<- cut_arr];unfold St.cutL;rw[List.take_of_length_le (by simp)]
  unfold St.endS;rw[cellsP_app];simp only[cellsP,List.flatMap_cons,List.flatMap_nil,List.append_nil,h0]
 have HCL:=hid hcl;generalize hn:ps.length=n at *;clear hown hbk hB hcl;go_enter Tryz.func162,Tryz.ntmps162;go_wp2_with fail;go_region_held3 (fun w'=>w'.cell? ⟨pb,0,none⟩=some (.string d)/\w'.cell? ⟨pb,1,none⟩=some (.int .i64 fr)/\w'.cell? ⟨pb,2,none⟩=some (.slice A n c)) (first|go_keep|exact⟨e0,e1,e2⟩|(refine⟨?_,?_,?_⟩ <;> go_simp)) ((refine step_append_own rfl (.tmp 6) (.tmp 17) 50 rfl B 110 i0 (.agg #[.bool false,.string ⟨#[]⟩,.string ⟨#[]⟩]) 3 40 Tryz.underlying50 hi hz0 hz1 hz2 rfl (by decide) (.slice A n c) n _ rfl (owns_und (HO.out.alloc (.cells #[.bool false,.string ⟨#[]⟩,.string s1] 110)) (Und.refl _).drew) ⟨w.heap.size,0,none⟩ 1 1 [.bool false,.string ⟨#[]⟩,.string s1] rfl rfl (side3b w _ _ _ 110 _ rfl) (part_one1 _ _ _) (by unfold maxLen;omega) (by omega) (by simp;omega) ?_;intro v' w1 hown' hgrow _;have hgr:=gb_trans (Und.gb ((by apply_rules[uUe,uUa,uUb,uUc,uUd]):Und w (w.alloc (.cells #[.bool false,.string ⟨#[]⟩,.string s1] 110)).drew) (Value.slice A n c).ownBlock) hgrow (fun g e=>Or.inl e);have hb4:w1.heap[pb]?=_:=(hgr.block pb (lt_of_heap HK.out) (fun e=>own_ne HO.out HK.out (by decide) e.symm)).trans HK.out;have e0:w1.cell? ⟨pb,0,none⟩=some (.string d):=zcH hb4 0;have e1:w1.cell? ⟨pb,1,none⟩=some (.int .i64 fr):=zcH hb4 1;have e2:w1.cell? ⟨pb,2,none⟩=some (.slice A n c):=zcH hb4 2;obtain⟨A',c',rfl,hq1,hq2⟩:=own_slice hown'))
 all_goals
  have hbl:Below B w w1:=(((Below.refl B w).alloc hBw _).drew).grown hgrow (by simp;omega) (fun g hg=>owns_block HO.out g hg);have hpa:PartsAt w1 A' (St.endS d.data.toList (ps,fr)):=parts_own (n:=n+1) (by rw[HCL.out];exact hown') (by simp[St.endS,hn]);have HE:=hid (And.intro hpa hbl);have hq1':=hid hq1;clear hbl hpa hgrow hown' hq1;go_wp2;go_ret;exact⟨_,_,rfl,HE.out.1,hq1'.out,by unfold maxLen at hq2;omega,HE.out.2⟩
end Go.Proofs.YtcfhfdphoidaeaaGreatDoor
