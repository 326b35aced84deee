/- The contracts of the parts' builder: NewParts, Unit, List. -/
import Derived.Test.YthoemdibbldndaaGreatDoorGC
import Derived.Deep.RegionHeld3
import Derived.OrdersHeld
set_option linter.all false
set_option maxHeartbeats 0
set_option maxRecDepth 20000
open Go.Value renaming int->Yh,string->Yi,slice->Yj,bool->Yk,pointer->Yl
open Go.IntKind renaming i64->Yn
open Go.Obj renaming cells->Yo
open Option renaming none->Yq,some->Yr
open Go renaming World->Ys
namespace Go.Proofs.YthoemdibbldndaaGreatDoor
open Go.RowKit
theorem FZ{P:Program}{md:Region.Mode}{ops:Array Oper}{Q:Exit->Act->Ys->Prop}{fuel:Nat}{l l':Array Bool}{a:Act}{w:Ys}(h:l=l')(hw:wpAny P md ops Q fuel l' a w):wpAny P md ops Q fuel l a w:=h ▸ hw
theorem eD{P:Program}{md:Region.Mode}{ops:Array Oper}{Q:Exit->Act->Ys->Prop}{S:Ys->Prop}{fuel:Nat}{l l':Array Bool}{a:Act}{w:Ys}(h:l=l')(hw:wpAnyH P md ops Q S fuel l' a w):wpAnyH P md ops Q S fuel l a w:=h ▸ hw
theorem dw{P:Program}{md:Region.Mode}{ops:Array Oper}{Q:Exit->Act->Ys->Prop}{S:Ys->Prop}{fuel:Nat}{l l':Array Bool}{a a':Act}{w:Ys}{v:Value}(i:Nat)(oi:Oper)(hi:ops[i]?=Yr oi)(h:wpAnyH P md ops Q S fuel l' a' w)
  (hs:Region.noSelect ops=true:=by kernel_rfl) (hf:Region.free md ops l i=true:=by kernel_rfl) (hr:(Region.ready md ops l).contains i=true:=by kernel_rfl) (hQ:∀c a w,Q (.panic c) (a.put oi.dst v) w->Q (.panic c) a w:=by exact λ_ _ _ h=>h)
  (hw:Region.wanted oi (yielded ops a.tmps)=true:=by rfl) (hy:∀W,S W->(execOp a.eval oi).run P W=.ok (.value v) W:=by(intro _ l8;have NU:=l8.1;have NV:=l8.2;clear l8;go_simp;try with_reducible rfl))
  (hS:S w:=by(first|assumption|(refine⟨?_,?_⟩<;>(first|assumption|(go_simp;done)))))
  (ha:a.put oi.dst v=a':=by(conv=>lhs;simp only[Act.put,ax,aw,ay]))
  (hl:l.setIfInBounds i true=l':=by(conv=>lhs;simp only[ax,aw,ay])):wpAnyH P md ops Q S (fuel+1) l a w:=
 wpAnyH_take hi hs hf hr hQ (Or.inl ⟨hw,hy⟩) hS (by rw[ha,hl];exact h)
def AllReadyH(P:Program)(md:Region.Mode)(ops:Array Oper)(Q:Exit->Act->Ys->Prop)(S:Ys->Prop)(fuel:Nat)(listed:Array Bool)(a:Act)(w:Ys)(rs:List Nat):Prop:=
 ∀i∈rs,wpOp P ops Q i (λa' w'=>S w'/\wpAnyH P md ops Q S fuel (listed.setIfInBounds i true) a' w') a w
theorem AllReadyH.nil{P:Program}{md:Region.Mode}{ops:Array Oper}{Q:Exit->Act->Ys->Prop}{S:Ys->Prop}{fuel:Nat}{listed:Array Bool}{a:Act}{w:Ys}:AllReadyH P md ops Q S fuel listed a w []:=λ_ h=>by cases h
theorem AllReadyH.cons{P:Program}{md:Region.Mode}{ops:Array Oper}{Q:Exit->Act->Ys->Prop}{S:Ys->Prop}{fuel:Nat}{listed:Array Bool}{a:Act}{w:Ys}{i:Nat}{o:Oper}{rs:List Nat}(ho:ops[i]?=Yr o)
  (h:∀K':Act->Ys->Prop,(∀a w,(S w/\wpAnyH P md ops Q S fuel (listed.setIfInBounds i true) a w)->K' a w)->if Region.wanted o (yielded ops a.tmps)=true then Oper.wp P o a w K' Q else K' (a.put o.dst undef) w)
  (hs:AllReadyH P md ops Q S fuel listed a w rs):AllReadyH P md ops Q S fuel listed a w (i :: rs):=λj hj=>by
 rcases List.mem_cons.1 hj with rfl|hj
 ·exact wpOp_step ho h
 exact hs j hj
theorem wpAnyH_ready{P:Program}{md:Region.Mode}{ops:Array Oper}{Q:Exit->Act->Ys->Prop}{S:Ys->Prop}{rs:List Nat}{fuel:Nat}{listed:Array Bool}{a:Act}{w:Ys}(hr:Region.ready md ops listed=rs)(hne:rs≠[])
  (h:AllReadyH P md ops Q S fuel listed a w rs):wpAnyH P md ops Q S (fuel+1) listed a w:=wpAnyH_all hr hne h
theorem BK(w2:Ys)(a b c d x y:Value)(e:TypeId)(g:Nat)(hb:g=w2.1.size):∀j u,[a,b,c,d,x,y][j]?=Yr u->(w2.alloc (Yo #[a,b,c,d,x,y] e)).cell? ((⟨g,0,Yq⟩:Addr).add j)=Yr u:=by
 subst hb;intro j u hj
 match j,hj with
 | 0,hj=>simp at hj;subst hj;simp[Addr.add]
 | 1,hj=>simp at hj;subst hj;simp[Addr.add]
 | 2,hj=>simp at hj;subst hj;simp[Addr.add]
 | 3,hj=>simp at hj;subst hj;simp[Addr.add]
 | 4,hj=>simp at hj;subst hj;simp[Addr.add]
 | 5,hj=>simp at hj;subst hj;simp[Addr.add]
 | j+6,hj=>simp at hj
theorem r9(b c:Bool)(s t x y:ByteArray):∀u∈[Yk b,Yi s,Yi t,Yk c,Yi x,Yi y],u.oneCell'=true:=by
 intro u hu;simp at hu;rcases hu with rfl|rfl|rfl|rfl|rfl|rfl<;>rfl
theorem AN(b:Bool)(s t:ByteArray):∀u∈[Yk b,Yi s,Yi t],u.oneCell'=true:=by
 intro u hu;simp at hu;rcases hu with rfl|rfl|rfl<;>rfl
def nv(w w':Ys):Prop:=∀(k:Nat) es n,w.1[k]?=Yr (.map es n)->w'.1[k]?=Yr (.map es n)
theorem nv.trans{a b c:Ys}(h:nv a b)(k:nv b c):nv a c:=λi es n hi=>k i es n (h i es n hi)
theorem Dl{w w':Ys}{row:Option Nat}(h:w.grownBy w' row)(hr:∀g,row=Yr g->∃cs T fr,w.1[g]?=Yr (Yo cs T fr)/\T∈nR):nv w w':=by
 intro k es n hk;refine(h.block k (ae hk) λe=>?_).trans hk;obtain⟨cs,T,fr,h1,_⟩:=hr k e.symm;rw[hk]at h1;cases h1
theorem xL{w:Ys}{p:Addr}{v:Value}{cs:Array Value}{T:TypeId}{fr:Nat × Nat}(hb:w.1[p.block]?=Yr (Yo cs T fr)):nv w (w.setCell p v):=by
 intro k es n hk;unfold World.setCell;simp only[Array.getElem?_modify];rw[if_neg]
 ·exact hk
 intro e;subst e;rw[hb]at hk;cases hk
theorem wk(w:Ys)(B pb:Nat)(d key:ByteArray)(s:St.PS)(a b:Nat)(h:PV w B pb d s)(h1:s.2<=a)(h2:a<=b)(h3:b<=d.size)(hd:d.size<=4611686018427387904)(hl:s.1.length<=1000000)(hBw:B<=w.1.size) :
  Calls Tryz.prog 79 #[Yl (Yr ⟨pb,0,Yq⟩),Yh Yn a,Yh Yn b,Yi key] w λe w'=>e=.returned (.tuple #[])/\PV w' B pb d (St.bi d.1.1 s a b key.1.1)/\Below B w w'/\eJ nR w w'/\nv w w':=by
 obtain⟨hB,v,hbk,hown⟩:=h;obtain⟨ps,fr⟩:=s;simp only at hbk hown h1 hl;obtain⟨A,c,rfl,_⟩:=aJ hown;have g0:w.cell? ⟨pb,0,Yq⟩=Yr (Yi d):=aj hbk 0;have g1:w.cell? ⟨pb,1,Yq⟩=Yr (Yh Yn fr):=aj hbk 1;have g2:w.cell? ⟨pb,2,Yq⟩=Yr (Yj A ps.length c):=aj hbk 2;haveI:af pb w:=af.of (ae hbk);obtain⟨i0,hi,hz0,hz1,hz2⟩:=info_parts nP;obtain⟨s1,hE1⟩:∃s1,d.extract fr a=s1:=⟨_,rfl⟩;obtain⟨s2,hE2⟩:∃s2,d.extract a b=s2:=⟨_,rfl⟩;have y1:(0:Int)<=fr:=by omega
 have y2:(fr:Int)<=a:=by omega
 have y3:(a:Int)<=b:=by omega
 have y4:(b:Int)<=d.size:=by omega
 have y5:(a:Int)<=d.size:=by omega
 have HO:=aa hown;have HB:=aa hB;have HK:=aa hbk
 have hcl:bX (ps++[(false,[],St.a6 d.1.1 fr a),(true,key.1.1,St.a6 d.1.1 a b)])=bX ps++[Yk false,Yi ⟨#[]⟩,Yi s1,Yk true,Yi key,Yi s2]:=by
  rw[oe];simp only[bX,List.flatMap_cons,List.flatMap_nil,List.append_nil,uB,bn,hE1,hE2];rfl
 have jL:=aa hcl;generalize hn:ps.length=n at *;clear hown hbk hB hcl;go_enter Tryz.func79,Tryz.ntmps79;go_wp2_with fail;refine wp_region_any (by kernel_rfl) ?_
 try (change wpAny _ _ _ _ _ _ _ (World.drew _))
 refine FZ (l':=#[bF,bF,bF,bF,bF,bF,bF,bF,bF,bF,bF,bF,bF,bF,bF,bF,bF,bF,bF,bF,bF,bF,bF,bF,bF,bF,bF,bF,bF,bF]) (by kernel_rfl) ?_;refine wpAny_of_held (S:=λW=>W.cell? ⟨pb,0,Yq⟩=Yr (Yi d)/\W.cell? ⟨pb,1,Yq⟩=Yr (Yh Yn fr)) _ _ _ _ ?_;refine dw 0 ⟨Yr 8,_,_,_,_,_⟩ rfl ?_;refine dw 1 ⟨Yr 9,_,_,_,_,_⟩ rfl ?_;refine dw 2 ⟨Yr 10,_,_,_,_,_⟩ rfl ?_;refine dw 3 ⟨Yr 11,_,_,_,_,_⟩ rfl ?_;refine dw 5 ⟨Yr 13,_,_,_,_,_⟩ rfl ?_;refine dw 6 ⟨Yr 14,_,_,_,_,_⟩ rfl ?_;refine dw 7 ⟨Yr 15,_,_,_,_,_⟩ rfl ?_;refine dw 8 ⟨Yr 16,_,_,_,_,_⟩ rfl ?_;refine dw 9 ⟨Yr 17,_,_,_,_,_⟩ rfl ?_;refine dw 10 ⟨Yr 18,_,_,_,_,_⟩ rfl ?_;refine dw 11 ⟨Yr 19,_,_,_,_,_⟩ rfl ?_;refine dw 12 ⟨Yr 20,_,_,_,_,_⟩ rfl ?_;refine dw 13 ⟨Yr 21,_,_,_,_,_⟩ rfl ?_;refine dw 14 ⟨Yr 22,_,_,_,_,_⟩ rfl ?_;refine dw 15 ⟨Yr 23,_,_,_,_,_⟩ rfl ?_;refine dw 16 ⟨Yr 24,_,_,_,_,_⟩ rfl ?_;refine dw 17 ⟨Yr 25,_,_,_,_,_⟩ rfl ?_;refine dw 18 ⟨Yr 26,_,_,_,_,_⟩ rfl ?_;refine dw 19 ⟨Yr 27,_,_,_,_,_⟩ rfl ?_;refine dw 20 ⟨Yr 28,_,_,_,_,_⟩ rfl ?_;refine dw 21 ⟨Yr 29,_,_,_,_,_⟩ rfl ?_;refine dw 22 ⟨Yr 30,_,_,_,_,_⟩ rfl ?_;refine dw 23 ⟨Yr 31,_,_,_,_,_⟩ rfl ?_;refine dw 24 ⟨Yr 32,_,_,_,_,_⟩ rfl ?_;refine wpAnyH_ready (rs:=[4,25]) (by kernel_rfl) (by simp) ?_;refine AllReadyH.cons (o:=⟨Yr 12,_,_,_,_,_⟩) rfl (λK hK=>?_) ?_
 ·go_simp;refine hK _ _ ⟨?_,?_⟩
  ·clear hK K;first|assumption|exact⟨e0,e1⟩|(refine⟨?_,?_⟩<;>(go_simp;done))
  clear hK K
  conv=>arg 8;simp only[Act.put,ax,aw,ay]
  refine eD (l':=#[bT,bT,bT,bT,bT,bT,bT,bT,bT,bT,bT,bT,bT,bT,bT,bT,bT,bT,bT,bT,bT,bT,bT,bT,bT,bF,bF,bF,bF,bF]) (by kernel_rfl) ?_;refine wpAnyH_ready (rs:=[25]) (by kernel_rfl) (by simp) ?_;refine AllReadyH.cons (o:=⟨Yr 33,_,_,_,_,_⟩) rfl (λK hK=>?_) AllReadyH.nil;go_simp;refine hK _ _ ⟨?_,?_⟩
  ·clear hK K;first|assumption|exact⟨e0,e1⟩|(refine⟨?_,?_⟩<;>(go_simp;done))
  clear hK K
  conv=>arg 8;simp only[Act.put,ax,aw,ay]
  refine eD (l':=#[bT,bT,bT,bT,bT,bT,bT,bT,bT,bT,bT,bT,bT,bT,bT,bT,bT,bT,bT,bT,bT,bT,bT,bT,bT,bT,bF,bF,bF,bF]) (by kernel_rfl) ?_;refine wpAnyH_ready (rs:=[26]) (by kernel_rfl) (by simp) ?_;refine AllReadyH.cons (o:=⟨some 34,_,_,_,_,_⟩) rfl (λK hK=>?_) AllReadyH.nil;refine cF rfl (.tmp 12) (.tmp 33) 23 rfl B 64 i0 (.agg #[.bool false,.string ⟨#[]⟩,.string ⟨#[]⟩]) 3 40 Tryz.underlying23 hi hz0 hz1 hz2 rfl (by decide) (.slice A n c) n _ rfl (dV (HO.out.alloc (.cells #[.bool false,.string ⟨#[]⟩,.string s1,.bool true,.string key,.string s2] 64)) (ac.refl _).drew) ⟨w.1.size,0,none⟩ 2 2 [.bool false,.string ⟨#[]⟩,.string s1,.bool true,.string key,.string s2] rfl rfl (BK w _ _ _ _ _ _ 64 _ rfl) (r9 _ _ _ _ _ _) (by unfold maxLen;omega) (by omega) (by simp;omega) ?_;intro v' w1 hown' hgrow _;have hgr:=aO (ac.gb (uZ:ac w (w.alloc (.cells #[.bool false,.string ⟨#[]⟩,.string s1,.bool true,.string key,.string s2] 64)).drew) (Value.slice A n c).ownBlock) hgrow (λg e=>Or.inl e);have hb4:w1.1[pb]?=_:=(hgr.block pb (ae HK.out) (λe=>aT HO.out HK.out (by decide) e.symm)).trans HK.out;have e0:w1.cell? ⟨pb,0,none⟩=some (.string d):=aj hb4 0;have e1:w1.cell? ⟨pb,1,none⟩=some (.int .i64 fr):=aj hb4 1;have e2:w1.cell? ⟨pb,2,none⟩=some (.slice A n c):=aj hb4 2;have f1:w1.frozen? ⟨pb,1,none⟩=false:=bz hb4 1;have f2:w1.frozen? ⟨pb,2,none⟩=false:=bz hb4 2;haveI:af pb w1:=af.of (ae hb4);obtain⟨A',c',rfl,_⟩:=aJ hown';refine hK _ _ ⟨?_,?_⟩
  ·clear hK K;first|assumption|exact⟨e0,e1⟩|(refine⟨?_,?_⟩<;>(go_simp;done))
  clear hK K
  conv=>arg 8;simp only[Act.put,ax,aw,ay]
  refine eD (l':=#[bT,bT,bT,bT,bT,bT,bT,bT,bT,bT,bT,bT,bT,bT,bT,bT,bT,bT,bT,bT,bT,bT,bT,bT,bT,bT,bT,bF,bF,bF]) (by kernel_rfl) ?_;refine dw 27 ⟨Yr 35,_,_,_,_,_⟩ rfl ?_;refine dw 28 ⟨Yr 36,_,_,_,_,_⟩ rfl ?_;refine wpAnyH_ready (rs:=[29]) (by kernel_rfl) (by simp) ?_;refine AllReadyH.cons (o:=⟨Yq,_,_,_,_,_⟩) rfl (λK hK=>?_) AllReadyH.nil;go_simp;refine hK _ _ ⟨?_,?_⟩
  ·clear hK K;first|assumption|exact⟨e0,e1⟩|(refine⟨?_,?_⟩<;>(go_simp;done))
  clear hK K
  conv=>arg 8;simp only[Act.put,ax,aw,ay]
  refine eD (l':=#[bT,bT,bT,bT,bT,bT,bT,bT,bT,bT,bT,bT,bT,bT,bT,bT,bT,bT,bT,bT,bT,bT,bT,bT,bT,bT,bT,bT,bT,bT]) (by kernel_rfl) ?_;refine wpAnyH_done (by kernel_rfl) ?_ _
  have JF:PV ((w1.setCell ⟨pb,2,Yq⟩ (Yj A' (n+2) c')).setCell ⟨pb,1,Yq⟩ (Yh Yn b)) B pb d (ps++[(false,[],St.a6 d.1.1 fr a),(true,key.1.1,St.a6 d.1.1 a b)],b):=by
   refine⟨HB.out,Yj A' (n+2) c',heap_setCell_same _ pb 1 _ _ _ (heap_setCell_same _ pb 2 _ _ _ hb4),?_⟩;refine aD (aD ?_ (aT hown' hb4 (by decide))) (aT hown' hb4 (by decide));rw[jL.out,List.length_append,hn];exact hown'
  have hbl:Below B w ((w1.setCell ⟨pb,2,Yq⟩ (Yj A' (n+2) c')).setCell ⟨pb,1,Yq⟩ (Yh Yn b)):=(dx (Below.refl B w) hBw hgr (λg hg=>aB HO.out g hg) HB.out).setCell (p:=⟨pb,1,Yq⟩) HB.out _
  have htk:eJ nR w ((w1.setCell ⟨pb,2,Yq⟩ (Yj A' (n+2) c')).setCell ⟨pb,1,Yq⟩ (Yh Yn b)):=
   ((np hgr (jt HO.out _ (by simp[nR]))).trans (jA (p:=⟨pb,2,Yq⟩) hb4 (by simp[nR]))).trans (jA (p:=⟨pb,1,Yq⟩) (heap_setCell_same _ pb 2 _ _ _ hb4) (by simp[nR]))
  have hmk:nv w ((w1.setCell ⟨pb,2,Yq⟩ (Yj A' (n+2) c')).setCell ⟨pb,1,Yq⟩ (Yh Yn b)):=
   ((Dl hgr (jt HO.out _ (by simp[nR]))).trans (xL (p:=⟨pb,2,Yq⟩) hb4)).trans (xL (p:=⟨pb,1,Yq⟩) (heap_setCell_same _ pb 2 _ _ _ hb4))
  have HE:=aa (And.intro JF (And.intro hbl (And.intro htk hmk)));clear JF hbl htk hmk hb4 hgr hgrow hown';go_wp2;go_end0;exact⟨rfl,HE.out.1,HE.out.2.1,HE.out.2.2.1,HE.out.2.2.2⟩
 refine AllReadyH.cons (o:=⟨Yr 33,_,_,_,_,_⟩) rfl (λK hK=>?_) ?_
 ·go_simp;refine hK _ _ ⟨?_,?_⟩
  ·clear hK K;first|assumption|exact⟨e0,e1⟩|(refine⟨?_,?_⟩<;>(go_simp;done))
  clear hK K
  conv=>arg 8;simp only[Act.put,ax,aw,ay]
  refine eD (l':=#[bT,bT,bT,bT,bF,bT,bT,bT,bT,bT,bT,bT,bT,bT,bT,bT,bT,bT,bT,bT,bT,bT,bT,bT,bT,bT,bF,bF,bF,bF]) (by kernel_rfl) ?_;refine wpAnyH_ready (rs:=[4]) (by kernel_rfl) (by simp) ?_;refine AllReadyH.cons (o:=⟨Yr 12,_,_,_,_,_⟩) rfl (λK hK=>?_) AllReadyH.nil;go_simp;refine hK _ _ ⟨?_,?_⟩
  ·clear hK K;first|assumption|exact⟨e0,e1⟩|(refine⟨?_,?_⟩<;>(go_simp;done))
  clear hK K
  conv=>arg 8;simp only[Act.put,ax,aw,ay]
  refine eD (l':=#[bT,bT,bT,bT,bT,bT,bT,bT,bT,bT,bT,bT,bT,bT,bT,bT,bT,bT,bT,bT,bT,bT,bT,bT,bT,bT,bF,bF,bF,bF]) (by kernel_rfl) ?_;refine wpAnyH_ready (rs:=[26]) (by kernel_rfl) (by simp) ?_;refine AllReadyH.cons (o:=⟨some 34,_,_,_,_,_⟩) rfl (λK hK=>?_) AllReadyH.nil;refine cF rfl (.tmp 12) (.tmp 33) 23 rfl B 64 i0 (.agg #[.bool false,.string ⟨#[]⟩,.string ⟨#[]⟩]) 3 40 Tryz.underlying23 hi hz0 hz1 hz2 rfl (by decide) (.slice A n c) n _ rfl (dV (HO.out.alloc (.cells #[.bool false,.string ⟨#[]⟩,.string s1,.bool true,.string key,.string s2] 64)) (ac.refl _).drew) ⟨w.1.size,0,none⟩ 2 2 [.bool false,.string ⟨#[]⟩,.string s1,.bool true,.string key,.string s2] rfl rfl (BK w _ _ _ _ _ _ 64 _ rfl) (r9 _ _ _ _ _ _) (by unfold maxLen;omega) (by omega) (by simp;omega) ?_;intro v' w1 hown' hgrow _;have hgr:=aO (ac.gb (uZ:ac w (w.alloc (.cells #[.bool false,.string ⟨#[]⟩,.string s1,.bool true,.string key,.string s2] 64)).drew) (Value.slice A n c).ownBlock) hgrow (λg e=>Or.inl e);have hb4:w1.1[pb]?=_:=(hgr.block pb (ae HK.out) (λe=>aT HO.out HK.out (by decide) e.symm)).trans HK.out;have e0:w1.cell? ⟨pb,0,none⟩=some (.string d):=aj hb4 0;have e1:w1.cell? ⟨pb,1,none⟩=some (.int .i64 fr):=aj hb4 1;have e2:w1.cell? ⟨pb,2,none⟩=some (.slice A n c):=aj hb4 2;have f1:w1.frozen? ⟨pb,1,none⟩=false:=bz hb4 1;have f2:w1.frozen? ⟨pb,2,none⟩=false:=bz hb4 2;haveI:af pb w1:=af.of (ae hb4);obtain⟨A',c',rfl,_⟩:=aJ hown';refine hK _ _ ⟨?_,?_⟩
  ·clear hK K;first|assumption|exact⟨e0,e1⟩|(refine⟨?_,?_⟩<;>(go_simp;done))
  clear hK K
  conv=>arg 8;simp only[Act.put,ax,aw,ay]
  refine eD (l':=#[bT,bT,bT,bT,bT,bT,bT,bT,bT,bT,bT,bT,bT,bT,bT,bT,bT,bT,bT,bT,bT,bT,bT,bT,bT,bT,bT,bF,bF,bF]) (by kernel_rfl) ?_;refine dw 27 ⟨Yr 35,_,_,_,_,_⟩ rfl ?_;refine dw 28 ⟨Yr 36,_,_,_,_,_⟩ rfl ?_;refine wpAnyH_ready (rs:=[29]) (by kernel_rfl) (by simp) ?_;refine AllReadyH.cons (o:=⟨Yq,_,_,_,_,_⟩) rfl (λK hK=>?_) AllReadyH.nil;go_simp;refine hK _ _ ⟨?_,?_⟩
  ·clear hK K;first|assumption|exact⟨e0,e1⟩|(refine⟨?_,?_⟩<;>(go_simp;done))
  clear hK K
  conv=>arg 8;simp only[Act.put,ax,aw,ay]
  refine eD (l':=#[bT,bT,bT,bT,bT,bT,bT,bT,bT,bT,bT,bT,bT,bT,bT,bT,bT,bT,bT,bT,bT,bT,bT,bT,bT,bT,bT,bT,bT,bT]) (by kernel_rfl) ?_;refine wpAnyH_done (by kernel_rfl) ?_ _
  have JF:PV ((w1.setCell ⟨pb,2,Yq⟩ (Yj A' (n+2) c')).setCell ⟨pb,1,Yq⟩ (Yh Yn b)) B pb d (ps++[(false,[],St.a6 d.1.1 fr a),(true,key.1.1,St.a6 d.1.1 a b)],b):=by
   refine⟨HB.out,Yj A' (n+2) c',heap_setCell_same _ pb 1 _ _ _ (heap_setCell_same _ pb 2 _ _ _ hb4),?_⟩;refine aD (aD ?_ (aT hown' hb4 (by decide))) (aT hown' hb4 (by decide));rw[jL.out,List.length_append,hn];exact hown'
  have hbl:Below B w ((w1.setCell ⟨pb,2,Yq⟩ (Yj A' (n+2) c')).setCell ⟨pb,1,Yq⟩ (Yh Yn b)):=(dx (Below.refl B w) hBw hgr (λg hg=>aB HO.out g hg) HB.out).setCell (p:=⟨pb,1,Yq⟩) HB.out _
  have htk:eJ nR w ((w1.setCell ⟨pb,2,Yq⟩ (Yj A' (n+2) c')).setCell ⟨pb,1,Yq⟩ (Yh Yn b)):=
   ((np hgr (jt HO.out _ (by simp[nR]))).trans (jA (p:=⟨pb,2,Yq⟩) hb4 (by simp[nR]))).trans (jA (p:=⟨pb,1,Yq⟩) (heap_setCell_same _ pb 2 _ _ _ hb4) (by simp[nR]))
  have hmk:nv w ((w1.setCell ⟨pb,2,Yq⟩ (Yj A' (n+2) c')).setCell ⟨pb,1,Yq⟩ (Yh Yn b)):=
   ((Dl hgr (jt HO.out _ (by simp[nR]))).trans (xL (p:=⟨pb,2,Yq⟩) hb4)).trans (xL (p:=⟨pb,1,Yq⟩) (heap_setCell_same _ pb 2 _ _ _ hb4))
  have HE:=aa (And.intro JF (And.intro hbl (And.intro htk hmk)));clear JF hbl htk hmk hb4 hgr hgrow hown';go_wp2;go_end0;exact⟨rfl,HE.out.1,HE.out.2.1,HE.out.2.2.1,HE.out.2.2.2⟩
 exact AllReadyH.nil
theorem M4(w:Ys)(B pb:Nat)(d key:ByteArray)(s:St.PS)(a b:Nat)(h:PV w B pb d s)(h1:s.2<=a)(h2:a<=b)(h3:b<=d.size)(hd:d.size<=4611686018427387904)(hl:s.1.length<=1000000)(hBw:B<=w.1.size) :
  Calls Tryz.prog 79 #[Yl (Yr ⟨pb,0,Yq⟩),Yh Yn a,Yh Yn b,Yi key] w λe w'=>e=.returned (.tuple #[])/\PV w' B pb d (St.bi d.1.1 s a b key.1.1)/\Below B w w'/\eJ nR w w':=
 (wk w B pb d key s a b h h1 h2 h3 hd hl hBw).mono λ_ _ ⟨x1,x2,x3,x4,_⟩=>⟨x1,x2,x3,x4⟩
def bk(w:Ys)(A:Option Addr)(f:List St.Pt):Prop:=
 f.length > 0->∃b off,A=Yr ⟨b,off,Yq⟩/\b<w.1.size/\∀j (h:j<f.length),w.cell? ⟨b,off+j*3,Yq⟩=Yr (Yk f[j].1)/\w.cell? ⟨b,off+j*3+1,Yq⟩=Yr (Yi ⟨f[j].2.1.toArray⟩)/\w.cell? ⟨b,off+j*3+2,Yq⟩=Yr (Yi ⟨f[j].2.2.toArray⟩)
theorem bk.ai{w w':Ys}{A:Option Addr}{f:List St.Pt}(h:bk w A f)(u:ac w w'):bk w' A f:=by
 intro h0;obtain⟨b,off,rfl,hb,hc⟩:=h h0;refine⟨b,off,rfl,Nat.lt_of_lt_of_le hb u.size,λj hj=>?_⟩;obtain⟨c0,c1,c2⟩:=hc j hj;exact⟨(u.cell hb).trans c0,(u.cell hb).trans c1,(u.cell hb).trans c2⟩
theorem zM(f:List St.Pt)(j:Nat)(h:j<f.length):(bX f)[j*3]?=Yr (Yk f[j].1)/\(bX f)[j*3+1]?=Yr (Yi ⟨f[j].2.1.toArray⟩)/\(bX f)[j*3+2]?=Yr (Yi ⟨f[j].2.2.toArray⟩):=by
 induction f generalizing j with
 | nil=>simp at h
 | cons x f ih=>
  match j,h with
  | 0,_=>exact⟨rfl,rfl,rfl⟩
  | j+1,h=>
   obtain⟨a,b,c⟩:=ih j (by simpa using h);have e:(j+1)*3=j*3+3:=by omega
   rw[e];exact⟨a,b,c⟩
theorem qd{w:Ys}{B n c:Nat}{A:Option Addr}{f:List St.Pt}(h:w.ownsRow B 64 3 (Yj A n c) n (bX f))(hn:f.length=n):bk w A f:=by
 intro h0;obtain⟨g,rfl,_,hg,hc⟩:=dU h (by omega);refine⟨g,0,rfl,hg,λj hj=>?_⟩;obtain⟨a,b,c⟩:=zM f j hj;rw[Nat.zero_add];exact⟨hc _ _ a,hc _ _ b,hc _ _ c⟩
theorem vI(w:Ys)(B pb:Nat)(d:ByteArray)(s:St.PS)(h:PV w B pb d s)(h1:s.2<=d.size)(hd:d.size<=4611686018427387904)(hl:s.1.length<=1000000)(hBw:B<=w.1.size) :
  Calls Tryz.prog 80 #[Yl (Yr ⟨pb,0,Yq⟩)] w λe w'=>∃A c,e=.returned (Yj A (s.1.length+1) c)/\bk w' A (St.cI d.1.1 s)/\s.1.length+1<=c/\c<=9223372036854775807/\Below B w w':=by
 obtain⟨hB,v,hbk,hown⟩:=h;obtain⟨ps,fr⟩:=s;simp only at hbk hown h1 hl;obtain⟨A,c,rfl,_⟩:=aJ hown;have g0:w.cell? ⟨pb,0,Yq⟩=Yr (Yi d):=aj hbk 0;have g1:w.cell? ⟨pb,1,Yq⟩=Yr (Yh Yn fr):=aj hbk 1;have g2:w.cell? ⟨pb,2,Yq⟩=Yr (Yj A ps.length c):=aj hbk 2;haveI:af pb w:=af.of (ae hbk);obtain⟨i0,hi,hz0,hz1,hz2⟩:=info_parts nP;obtain⟨s1,hE1⟩:∃s1,d.extract fr d.size=s1:=⟨_,rfl⟩;have y1:(0:Int)<=fr:=by omega
 have y2:(fr:Int)<=d.size:=by omega
 have HO:=aa hown;have HK:=aa hbk
 have hcl:bX (St.cI d.1.1 (ps,fr))=bX ps++[Yk false,Yi ⟨#[]⟩,Yi s1]:=by
  have h0:(⟨(d.1.1.drop fr).toArray⟩:ByteArray)=s1:=by
   rw[<-hE1,<-uB];unfold St.a6;rw[List.take_of_length_le (by simp)]
  unfold St.cI;rw[oe];simp only[bX,List.flatMap_cons,List.flatMap_nil,List.append_nil,h0]
 have jL:=aa hcl;generalize hn:ps.length=n at *;clear hown hbk hB hcl;go_enter Tryz.func80,Tryz.ntmps80;go_wp2_with fail;go_region_held3 (λw'=>w'.cell? ⟨pb,0,none⟩=some (.string d)/\w'.cell? ⟨pb,1,none⟩=some (.int .i64 fr)/\w'.cell? ⟨pb,2,none⟩=some (.slice A n c)) (first|go_keep|exact⟨e0,e1,e2⟩|(refine⟨?_,?_,?_⟩<;>go_simp)) ((refine cF rfl (.tmp 6) (.tmp 17) 23 rfl B 64 i0 (.agg #[.bool false,.string ⟨#[]⟩,.string ⟨#[]⟩]) 3 40 Tryz.underlying23 hi hz0 hz1 hz2 rfl (by decide) (.slice A n c) n _ rfl (dV (HO.out.alloc (.cells #[.bool false,.string ⟨#[]⟩,.string s1] 64)) (ac.refl _).drew) ⟨w.1.size,0,none⟩ 1 1 [.bool false,.string ⟨#[]⟩,.string s1] rfl rfl (dW w _ _ _ 64 _ rfl) (AN _ _ _) (by unfold maxLen;omega) (by omega) (by simp;omega) ?_;intro v' w1 hown' hgrow _;have hgr:=aO (ac.gb (uZ:ac w (w.alloc (.cells #[.bool false,.string ⟨#[]⟩,.string s1] 64)).drew) (Value.slice A n c).ownBlock) hgrow (λg e=>Or.inl e);have hb4:w1.1[pb]?=_:=(hgr.block pb (ae HK.out) (λe=>aT HO.out HK.out (by decide) e.symm)).trans HK.out;have e0:w1.cell? ⟨pb,0,none⟩=some (.string d):=aj hb4 0;have e1:w1.cell? ⟨pb,1,none⟩=some (.int .i64 fr):=aj hb4 1;have e2:w1.cell? ⟨pb,2,none⟩=some (.slice A n c):=aj hb4 2;obtain⟨A',c',rfl,hq1,hq2⟩:=aJ hown'))
 all_goals
  have hbl:Below B w w1:=(((Below.refl B w).alloc hBw _).drew).grown hgrow (by simp;omega) (λg hg=>aB HO.out g hg);have lK:bk w1 A' (St.cI d.1.1 (ps,fr)):=qd (n:=n+1) (by rw[jL.out];exact hown') (by simp[St.cI,hn]);have HE:=aa (And.intro lK hbl);have mW:=aa hq1;clear hbl lK hgrow hown' hq1;go_wp2;go_ret;exact⟨_,_,rfl,HE.out.1,mW.out,by unfold maxLen at hq2;omega,HE.out.2⟩
