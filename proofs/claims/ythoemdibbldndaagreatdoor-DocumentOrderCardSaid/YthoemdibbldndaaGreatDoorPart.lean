/- The contracts of the parts' builder: NewParts, Unit, List. -/
import Derived.Test.YthoemdibbldndaaGreatDoorGC
import Derived.Deep.RegionHeld3
import Derived.OrdersHeld
set_option linter.all false
set_option maxHeartbeats 0
set_option maxRecDepth 20000
open Go.Value renaming int->Yp,string->Yq,slice->Yr,bool->Ys,pointer->Yt
open Go.IntKind renaming i64->Yv
open Go.Obj renaming cells->Yw
open Option renaming none->Yy,some->Yz
open Go renaming World->YA
namespace Go.Proofs.YthoemdibbldndaaGreatDoor
open Go.RowKit
theorem GK{P:Program}{md:Region.Mode}{ops:Array Oper}{Q:Exit->Act->YA->Prop}{fuel:Nat}{l l':Array Bool}{a:Act}{w:YA}(h:l=l')(hw:wpAny P md ops Q fuel l' a w):wpAny P md ops Q fuel l a w:=h ▸ hw
theorem eF{P:Program}{md:Region.Mode}{ops:Array Oper}{Q:Exit->Act->YA->Prop}{S:YA->Prop}{fuel:Nat}{l l':Array Bool}{a:Act}{w:YA}(h:l=l')(hw:wpAnyH P md ops Q S fuel l' a w):wpAnyH P md ops Q S fuel l a w:=h ▸ hw
theorem dx{P:Program}{md:Region.Mode}{ops:Array Oper}{Q:Exit->Act->YA->Prop}{S:YA->Prop}{fuel:Nat}{l l':Array Bool}{a a':Act}{w:YA}{v:Value}(i:Nat)(oi:Oper)(hi:ops[i]?=Yz oi)(h:wpAnyH P md ops Q S fuel l' a' w)
  (hs:Region.noSelect ops=true:=by kernel_rfl) (hf:Region.free md ops l i=true:=by kernel_rfl) (hr:(Region.ready md ops l).contains i=true:=by kernel_rfl) (hQ:∀c a w,Q (.panic c) (a.put oi.dst v) w->Q (.panic c) a w:=by exact λ_ _ _ h=>h)
  (hw:Region.wanted oi (yielded ops a.tmps)=true:=by rfl) (hy:∀W,S W->(execOp a.eval oi).run P W=.ok (.value v) W:=by(intro _ mg;have OA:=mg.1;have OB:=mg.2;clear mg;go_simp;try with_reducible rfl))
  (hS:S w:=by(first|assumption|(refine⟨?_,?_⟩<;>(first|assumption|(go_simp;done)))))
  (ha:a.put oi.dst v=a':=by(conv=>lhs;simp only[Act.put,ax,aw,ay]))
  (hl:l.setIfInBounds i true=l':=by(conv=>lhs;simp only[ax,aw,ay])):wpAnyH P md ops Q S (fuel+1) l a w:=
 wpAnyH_take hi hs hf hr hQ (Or.inl ⟨hw,hy⟩) hS (by rw[ha,hl];exact h)
def AllReadyH(P:Program)(md:Region.Mode)(ops:Array Oper)(Q:Exit->Act->YA->Prop)(S:YA->Prop)(fuel:Nat)(listed:Array Bool)(a:Act)(w:YA)(rs:List Nat):Prop:=
 ∀i∈rs,wpOp P ops Q i (λa' w'=>S w'/\wpAnyH P md ops Q S fuel (listed.setIfInBounds i true) a' w') a w
theorem AllReadyH.nil{P:Program}{md:Region.Mode}{ops:Array Oper}{Q:Exit->Act->YA->Prop}{S:YA->Prop}{fuel:Nat}{listed:Array Bool}{a:Act}{w:YA}:AllReadyH P md ops Q S fuel listed a w []:=λ_ h=>by cases h
theorem AllReadyH.cons{P:Program}{md:Region.Mode}{ops:Array Oper}{Q:Exit->Act->YA->Prop}{S:YA->Prop}{fuel:Nat}{listed:Array Bool}{a:Act}{w:YA}{i:Nat}{o:Oper}{rs:List Nat}(ho:ops[i]?=Yz o)
  (h:∀K':Act->YA->Prop,(∀a w,(S w/\wpAnyH P md ops Q S fuel (listed.setIfInBounds i true) a w)->K' a w)->if Region.wanted o (yielded ops a.tmps)=true then Oper.wp P o a w K' Q else K' (a.put o.dst undef) w)
  (hs:AllReadyH P md ops Q S fuel listed a w rs):AllReadyH P md ops Q S fuel listed a w (i :: rs):=λj hj=>by
 rcases List.mem_cons.1 hj with rfl|hj
 ·exact wpOp_step ho h
 exact hs j hj
theorem wpAnyH_ready{P:Program}{md:Region.Mode}{ops:Array Oper}{Q:Exit->Act->YA->Prop}{S:YA->Prop}{rs:List Nat}{fuel:Nat}{listed:Array Bool}{a:Act}{w:YA}(hr:Region.ready md ops listed=rs)(hne:rs≠[])
  (h:AllReadyH P md ops Q S fuel listed a w rs):wpAnyH P md ops Q S (fuel+1) listed a w:=wpAnyH_all hr hne h
theorem Cq(w2:YA)(a b c d x y:Value)(e:TypeId)(g:Nat)(hb:g=w2.1.size):∀j u,[a,b,c,d,x,y][j]?=Yz u->(w2.alloc (Yw #[a,b,c,d,x,y] e)).cell? ((⟨g,0,Yy⟩:Addr).add j)=Yz u:=by
 subst hb;intro j u hj
 match j,hj with
 | 0,hj=>simp at hj;subst hj;simp[Addr.add]
 | 1,hj=>simp at hj;subst hj;simp[Addr.add]
 | 2,hj=>simp at hj;subst hj;simp[Addr.add]
 | 3,hj=>simp at hj;subst hj;simp[Addr.add]
 | 4,hj=>simp at hj;subst hj;simp[Addr.add]
 | 5,hj=>simp at hj;subst hj;simp[Addr.add]
 | j+6,hj=>simp at hj
theorem sv(b c:Bool)(s t x y:ByteArray):∀u∈[Ys b,Yq s,Yq t,Ys c,Yq x,Yq y],u.oneCell'=true:=by
 intro u hu;simp at hu;rcases hu with rfl|rfl|rfl|rfl|rfl|rfl<;>rfl
theorem BC(b:Bool)(s t:ByteArray):∀u∈[Ys b,Yq s,Yq t],u.oneCell'=true:=by
 intro u hu;simp at hu;rcases hu with rfl|rfl|rfl<;>rfl
def nv(w w':YA):Prop:=∀(k:Nat) es n,w.1[k]?=Yz (.map es n)->w'.1[k]?=Yz (.map es n)
theorem nv.trans{a b c:YA}(h:nv a b)(k:nv b c):nv a c:=λi es n hi=>k i es n (h i es n hi)
theorem Eb{w w':YA}{row:Option Nat}(h:w.grownBy w' row)(hr:∀g,row=Yz g->∃cs T fr,w.1[g]?=Yz (Yw cs T fr)/\T∈nS):nv w w':=by
 intro k es n hk;refine(h.block k (ae hk) λe=>?_).trans hk;obtain⟨cs,T,fr,h1,_⟩:=hr k e.symm;rw[hk]at h1;cases h1
theorem ym{w:YA}{p:Addr}{v:Value}{cs:Array Value}{T:TypeId}{fr:Nat × Nat}(hb:w.1[p.block]?=Yz (Yw cs T fr)):nv w (w.setCell p v):=by
 intro k es n hk;unfold World.setCell;simp only[Array.getElem?_modify];rw[if_neg]
 ·exact hk
 intro e;subst e;rw[hb]at hk;cases hk
theorem wV(w:YA)(B pb:Nat)(d key:ByteArray)(s:St.PS)(a b:Nat)(h:PV w B pb d s)(h1:s.2<=a)(h2:a<=b)(h3:b<=d.size)(hd:d.size<=4611686018427387904)(hl:s.1.length<=1000000)(hBw:B<=w.1.size) :
  Calls Tryz.prog 79 #[Yt (Yz ⟨pb,0,Yy⟩),Yp Yv a,Yp Yv b,Yq key] w λe w'=>e=.returned (.tuple #[])/\PV w' B pb d (St.bk d.1.1 s a b key.1.1)/\Below B w w'/\eO nS w w'/\nv w w':=by
 obtain⟨hB,v,hbk,hown⟩:=h;obtain⟨ps,fr⟩:=s;simp only at hbk hown h1 hl;obtain⟨A,c,rfl,_⟩:=aI hown;have g0:w.cell? ⟨pb,0,Yy⟩=Yz (Yq d):=aj hbk 0;have g1:w.cell? ⟨pb,1,Yy⟩=Yz (Yp Yv fr):=aj hbk 1;have g2:w.cell? ⟨pb,2,Yy⟩=Yz (Yr A ps.length c):=aj hbk 2;haveI:af pb w:=af.of (ae hbk);obtain⟨i0,hi,hz0,hz1,hz2⟩:=info_parts nP;obtain⟨s1,hE1⟩:∃s1,d.extract fr a=s1:=⟨_,rfl⟩;obtain⟨s2,hE2⟩:∃s2,d.extract a b=s2:=⟨_,rfl⟩;have y1:(0:Int)<=fr:=by omega
 have y2:(fr:Int)<=a:=by omega
 have y3:(a:Int)<=b:=by omega
 have y4:(b:Int)<=d.size:=by omega
 have y5:(a:Int)<=d.size:=by omega
 have HO:=aa hown;have HB:=aa hB;have HK:=aa hbk
 have hcl:cd (ps++[(false,[],St.aZ d.1.1 fr a),(true,key.1.1,St.aZ d.1.1 a b)])=cd ps++[Ys false,Yq ⟨#[]⟩,Yq s1,Ys true,Yq key,Yq s2]:=by
  rw[oq];simp only[cd,List.flatMap_cons,List.flatMap_nil,List.append_nil,zuy,bo,hE1,hE2];rfl
 have jP:=aa hcl;generalize hn:ps.length=n at *;clear hown hbk hB hcl;go_enter Tryz.func79,Tryz.ntmps79;go_wp2_with fail;refine wp_region_any (by kernel_rfl) ?_
 try (change wpAny _ _ _ _ _ _ _ (World.drew _))
 refine GK (l':=#[bF,bF,bF,bF,bF,bF,bF,bF,bF,bF,bF,bF,bF,bF,bF,bF,bF,bF,bF,bF,bF,bF,bF,bF,bF,bF,bF,bF,bF,bF]) (by kernel_rfl) ?_;refine wpAny_of_held (S:=λW=>W.cell? ⟨pb,0,Yy⟩=Yz (Yq d)/\W.cell? ⟨pb,1,Yy⟩=Yz (Yp Yv fr)) _ _ _ _ ?_;refine dx 0 ⟨Yz 8,_,_,_,_,_⟩ rfl ?_;refine dx 1 ⟨Yz 9,_,_,_,_,_⟩ rfl ?_;refine dx 2 ⟨Yz 10,_,_,_,_,_⟩ rfl ?_;refine dx 3 ⟨Yz 11,_,_,_,_,_⟩ rfl ?_;refine dx 5 ⟨Yz 13,_,_,_,_,_⟩ rfl ?_;refine dx 6 ⟨Yz 14,_,_,_,_,_⟩ rfl ?_;refine dx 7 ⟨Yz 15,_,_,_,_,_⟩ rfl ?_;refine dx 8 ⟨Yz 16,_,_,_,_,_⟩ rfl ?_;refine dx 9 ⟨Yz 17,_,_,_,_,_⟩ rfl ?_;refine dx 10 ⟨Yz 18,_,_,_,_,_⟩ rfl ?_;refine dx 11 ⟨Yz 19,_,_,_,_,_⟩ rfl ?_;refine dx 12 ⟨Yz 20,_,_,_,_,_⟩ rfl ?_;refine dx 13 ⟨Yz 21,_,_,_,_,_⟩ rfl ?_;refine dx 14 ⟨Yz 22,_,_,_,_,_⟩ rfl ?_;refine dx 15 ⟨Yz 23,_,_,_,_,_⟩ rfl ?_;refine dx 16 ⟨Yz 24,_,_,_,_,_⟩ rfl ?_;refine dx 17 ⟨Yz 25,_,_,_,_,_⟩ rfl ?_;refine dx 18 ⟨Yz 26,_,_,_,_,_⟩ rfl ?_;refine dx 19 ⟨Yz 27,_,_,_,_,_⟩ rfl ?_;refine dx 20 ⟨Yz 28,_,_,_,_,_⟩ rfl ?_;refine dx 21 ⟨Yz 29,_,_,_,_,_⟩ rfl ?_;refine dx 22 ⟨Yz 30,_,_,_,_,_⟩ rfl ?_;refine dx 23 ⟨Yz 31,_,_,_,_,_⟩ rfl ?_;refine dx 24 ⟨Yz 32,_,_,_,_,_⟩ rfl ?_;refine wpAnyH_ready (rs:=[4,25]) (by kernel_rfl) (by simp) ?_;refine AllReadyH.cons (o:=⟨Yz 12,_,_,_,_,_⟩) rfl (λK hK=>?_) ?_
 ·go_simp;refine hK _ _ ⟨?_,?_⟩
  ·clear hK K;first|assumption|exact⟨e0,e1⟩|(refine⟨?_,?_⟩<;>(go_simp;done))
  clear hK K
  conv=>arg 8;simp only[Act.put,ax,aw,ay]
  refine eF (l':=#[bT,bT,bT,bT,bT,bT,bT,bT,bT,bT,bT,bT,bT,bT,bT,bT,bT,bT,bT,bT,bT,bT,bT,bT,bT,bF,bF,bF,bF,bF]) (by kernel_rfl) ?_;refine wpAnyH_ready (rs:=[25]) (by kernel_rfl) (by simp) ?_;refine AllReadyH.cons (o:=⟨Yz 33,_,_,_,_,_⟩) rfl (λK hK=>?_) AllReadyH.nil;go_simp;refine hK _ _ ⟨?_,?_⟩
  ·clear hK K;first|assumption|exact⟨e0,e1⟩|(refine⟨?_,?_⟩<;>(go_simp;done))
  clear hK K
  conv=>arg 8;simp only[Act.put,ax,aw,ay]
  refine eF (l':=#[bT,bT,bT,bT,bT,bT,bT,bT,bT,bT,bT,bT,bT,bT,bT,bT,bT,bT,bT,bT,bT,bT,bT,bT,bT,bT,bF,bF,bF,bF]) (by kernel_rfl) ?_;refine wpAnyH_ready (rs:=[26]) (by kernel_rfl) (by simp) ?_;refine AllReadyH.cons (o:=⟨some 34,_,_,_,_,_⟩) rfl (λK hK=>?_) AllReadyH.nil;refine cM rfl (.tmp 12) (.tmp 33) 23 rfl B 64 i0 (.agg #[.bool false,.string ⟨#[]⟩,.string ⟨#[]⟩]) 3 40 Tryz.underlying23 hi hz0 hz1 hz2 rfl (by decide) (.slice A n c) n _ rfl (dN (HO.out.alloc (.cells #[.bool false,.string ⟨#[]⟩,.string s1,.bool true,.string key,.string s2] 64)) (ac.refl _).drew) ⟨w.1.size,0,none⟩ 2 2 [.bool false,.string ⟨#[]⟩,.string s1,.bool true,.string key,.string s2] rfl rfl (Cq w _ _ _ _ _ _ 64 _ rfl) (sv _ _ _ _ _ _) (by unfold maxLen;omega) (by omega) (by simp;omega) ?_;intro v' w1 hown' hgrow _;have hgr:=aN (ac.gb (uZ:ac w (w.alloc (.cells #[.bool false,.string ⟨#[]⟩,.string s1,.bool true,.string key,.string s2] 64)).drew) (Value.slice A n c).ownBlock) hgrow (λg e=>Or.inl e);have hb4:w1.1[pb]?=_:=(hgr.block pb (ae HK.out) (λe=>aS HO.out HK.out (by decide) e.symm)).trans HK.out;have e0:w1.cell? ⟨pb,0,none⟩=some (.string d):=aj hb4 0;have e1:w1.cell? ⟨pb,1,none⟩=some (.int .i64 fr):=aj hb4 1;have e2:w1.cell? ⟨pb,2,none⟩=some (.slice A n c):=aj hb4 2;have f1:w1.frozen? ⟨pb,1,none⟩=false:=bu hb4 1;have f2:w1.frozen? ⟨pb,2,none⟩=false:=bu hb4 2;haveI:af pb w1:=af.of (ae hb4);obtain⟨A',c',rfl,_⟩:=aI hown';refine hK _ _ ⟨?_,?_⟩
  ·clear hK K;first|assumption|exact⟨e0,e1⟩|(refine⟨?_,?_⟩<;>(go_simp;done))
  clear hK K
  conv=>arg 8;simp only[Act.put,ax,aw,ay]
  refine eF (l':=#[bT,bT,bT,bT,bT,bT,bT,bT,bT,bT,bT,bT,bT,bT,bT,bT,bT,bT,bT,bT,bT,bT,bT,bT,bT,bT,bT,bF,bF,bF]) (by kernel_rfl) ?_;refine dx 27 ⟨Yz 35,_,_,_,_,_⟩ rfl ?_;refine dx 28 ⟨Yz 36,_,_,_,_,_⟩ rfl ?_;refine wpAnyH_ready (rs:=[29]) (by kernel_rfl) (by simp) ?_;refine AllReadyH.cons (o:=⟨Yy,_,_,_,_,_⟩) rfl (λK hK=>?_) AllReadyH.nil;go_simp;refine hK _ _ ⟨?_,?_⟩
  ·clear hK K;first|assumption|exact⟨e0,e1⟩|(refine⟨?_,?_⟩<;>(go_simp;done))
  clear hK K
  conv=>arg 8;simp only[Act.put,ax,aw,ay]
  refine eF (l':=#[bT,bT,bT,bT,bT,bT,bT,bT,bT,bT,bT,bT,bT,bT,bT,bT,bT,bT,bT,bT,bT,bT,bT,bT,bT,bT,bT,bT,bT,bT]) (by kernel_rfl) ?_;refine wpAnyH_done (by kernel_rfl) ?_ _
  have Ko:PV ((w1.setCell ⟨pb,2,Yy⟩ (Yr A' (n+2) c')).setCell ⟨pb,1,Yy⟩ (Yp Yv b)) B pb d (ps++[(false,[],St.aZ d.1.1 fr a),(true,key.1.1,St.aZ d.1.1 a b)],b):=by
   refine⟨HB.out,Yr A' (n+2) c',heap_setCell_same _ pb 1 _ _ _ (heap_setCell_same _ pb 2 _ _ _ hb4),?_⟩;refine aC (aC ?_ (aS hown' hb4 (by decide))) (aS hown' hb4 (by decide));rw[jP.out,List.length_append,hn];exact hown'
  have hbl:Below B w ((w1.setCell ⟨pb,2,Yy⟩ (Yr A' (n+2) c')).setCell ⟨pb,1,Yy⟩ (Yp Yv b)):=(dz (Below.refl B w) hBw hgr (λg hg=>aD HO.out g hg) HB.out).setCell (p:=⟨pb,1,Yy⟩) HB.out _
  have htk:eO nS w ((w1.setCell ⟨pb,2,Yy⟩ (Yr A' (n+2) c')).setCell ⟨pb,1,Yy⟩ (Yp Yv b)):=
   ((nr hgr (jy HO.out _ (by simp[nS]))).trans (jF (p:=⟨pb,2,Yy⟩) hb4 (by simp[nS]))).trans (jF (p:=⟨pb,1,Yy⟩) (heap_setCell_same _ pb 2 _ _ _ hb4) (by simp[nS]))
  have hmk:nv w ((w1.setCell ⟨pb,2,Yy⟩ (Yr A' (n+2) c')).setCell ⟨pb,1,Yy⟩ (Yp Yv b)):=
   ((Eb hgr (jy HO.out _ (by simp[nS]))).trans (ym (p:=⟨pb,2,Yy⟩) hb4)).trans (ym (p:=⟨pb,1,Yy⟩) (heap_setCell_same _ pb 2 _ _ _ hb4))
  have HE:=aa (And.intro Ko (And.intro hbl (And.intro htk hmk)));clear Ko hbl htk hmk hb4 hgr hgrow hown';go_wp2;go_end0;exact⟨rfl,HE.out.1,HE.out.2.1,HE.out.2.2.1,HE.out.2.2.2⟩
 refine AllReadyH.cons (o:=⟨Yz 33,_,_,_,_,_⟩) rfl (λK hK=>?_) ?_
 ·go_simp;refine hK _ _ ⟨?_,?_⟩
  ·clear hK K;first|assumption|exact⟨e0,e1⟩|(refine⟨?_,?_⟩<;>(go_simp;done))
  clear hK K
  conv=>arg 8;simp only[Act.put,ax,aw,ay]
  refine eF (l':=#[bT,bT,bT,bT,bF,bT,bT,bT,bT,bT,bT,bT,bT,bT,bT,bT,bT,bT,bT,bT,bT,bT,bT,bT,bT,bT,bF,bF,bF,bF]) (by kernel_rfl) ?_;refine wpAnyH_ready (rs:=[4]) (by kernel_rfl) (by simp) ?_;refine AllReadyH.cons (o:=⟨Yz 12,_,_,_,_,_⟩) rfl (λK hK=>?_) AllReadyH.nil;go_simp;refine hK _ _ ⟨?_,?_⟩
  ·clear hK K;first|assumption|exact⟨e0,e1⟩|(refine⟨?_,?_⟩<;>(go_simp;done))
  clear hK K
  conv=>arg 8;simp only[Act.put,ax,aw,ay]
  refine eF (l':=#[bT,bT,bT,bT,bT,bT,bT,bT,bT,bT,bT,bT,bT,bT,bT,bT,bT,bT,bT,bT,bT,bT,bT,bT,bT,bT,bF,bF,bF,bF]) (by kernel_rfl) ?_;refine wpAnyH_ready (rs:=[26]) (by kernel_rfl) (by simp) ?_;refine AllReadyH.cons (o:=⟨some 34,_,_,_,_,_⟩) rfl (λK hK=>?_) AllReadyH.nil;refine cM rfl (.tmp 12) (.tmp 33) 23 rfl B 64 i0 (.agg #[.bool false,.string ⟨#[]⟩,.string ⟨#[]⟩]) 3 40 Tryz.underlying23 hi hz0 hz1 hz2 rfl (by decide) (.slice A n c) n _ rfl (dN (HO.out.alloc (.cells #[.bool false,.string ⟨#[]⟩,.string s1,.bool true,.string key,.string s2] 64)) (ac.refl _).drew) ⟨w.1.size,0,none⟩ 2 2 [.bool false,.string ⟨#[]⟩,.string s1,.bool true,.string key,.string s2] rfl rfl (Cq w _ _ _ _ _ _ 64 _ rfl) (sv _ _ _ _ _ _) (by unfold maxLen;omega) (by omega) (by simp;omega) ?_;intro v' w1 hown' hgrow _;have hgr:=aN (ac.gb (uZ:ac w (w.alloc (.cells #[.bool false,.string ⟨#[]⟩,.string s1,.bool true,.string key,.string s2] 64)).drew) (Value.slice A n c).ownBlock) hgrow (λg e=>Or.inl e);have hb4:w1.1[pb]?=_:=(hgr.block pb (ae HK.out) (λe=>aS HO.out HK.out (by decide) e.symm)).trans HK.out;have e0:w1.cell? ⟨pb,0,none⟩=some (.string d):=aj hb4 0;have e1:w1.cell? ⟨pb,1,none⟩=some (.int .i64 fr):=aj hb4 1;have e2:w1.cell? ⟨pb,2,none⟩=some (.slice A n c):=aj hb4 2;have f1:w1.frozen? ⟨pb,1,none⟩=false:=bu hb4 1;have f2:w1.frozen? ⟨pb,2,none⟩=false:=bu hb4 2;haveI:af pb w1:=af.of (ae hb4);obtain⟨A',c',rfl,_⟩:=aI hown';refine hK _ _ ⟨?_,?_⟩
  ·clear hK K;first|assumption|exact⟨e0,e1⟩|(refine⟨?_,?_⟩<;>(go_simp;done))
  clear hK K
  conv=>arg 8;simp only[Act.put,ax,aw,ay]
  refine eF (l':=#[bT,bT,bT,bT,bT,bT,bT,bT,bT,bT,bT,bT,bT,bT,bT,bT,bT,bT,bT,bT,bT,bT,bT,bT,bT,bT,bT,bF,bF,bF]) (by kernel_rfl) ?_;refine dx 27 ⟨Yz 35,_,_,_,_,_⟩ rfl ?_;refine dx 28 ⟨Yz 36,_,_,_,_,_⟩ rfl ?_;refine wpAnyH_ready (rs:=[29]) (by kernel_rfl) (by simp) ?_;refine AllReadyH.cons (o:=⟨Yy,_,_,_,_,_⟩) rfl (λK hK=>?_) AllReadyH.nil;go_simp;refine hK _ _ ⟨?_,?_⟩
  ·clear hK K;first|assumption|exact⟨e0,e1⟩|(refine⟨?_,?_⟩<;>(go_simp;done))
  clear hK K
  conv=>arg 8;simp only[Act.put,ax,aw,ay]
  refine eF (l':=#[bT,bT,bT,bT,bT,bT,bT,bT,bT,bT,bT,bT,bT,bT,bT,bT,bT,bT,bT,bT,bT,bT,bT,bT,bT,bT,bT,bT,bT,bT]) (by kernel_rfl) ?_;refine wpAnyH_done (by kernel_rfl) ?_ _
  have Ko:PV ((w1.setCell ⟨pb,2,Yy⟩ (Yr A' (n+2) c')).setCell ⟨pb,1,Yy⟩ (Yp Yv b)) B pb d (ps++[(false,[],St.aZ d.1.1 fr a),(true,key.1.1,St.aZ d.1.1 a b)],b):=by
   refine⟨HB.out,Yr A' (n+2) c',heap_setCell_same _ pb 1 _ _ _ (heap_setCell_same _ pb 2 _ _ _ hb4),?_⟩;refine aC (aC ?_ (aS hown' hb4 (by decide))) (aS hown' hb4 (by decide));rw[jP.out,List.length_append,hn];exact hown'
  have hbl:Below B w ((w1.setCell ⟨pb,2,Yy⟩ (Yr A' (n+2) c')).setCell ⟨pb,1,Yy⟩ (Yp Yv b)):=(dz (Below.refl B w) hBw hgr (λg hg=>aD HO.out g hg) HB.out).setCell (p:=⟨pb,1,Yy⟩) HB.out _
  have htk:eO nS w ((w1.setCell ⟨pb,2,Yy⟩ (Yr A' (n+2) c')).setCell ⟨pb,1,Yy⟩ (Yp Yv b)):=
   ((nr hgr (jy HO.out _ (by simp[nS]))).trans (jF (p:=⟨pb,2,Yy⟩) hb4 (by simp[nS]))).trans (jF (p:=⟨pb,1,Yy⟩) (heap_setCell_same _ pb 2 _ _ _ hb4) (by simp[nS]))
  have hmk:nv w ((w1.setCell ⟨pb,2,Yy⟩ (Yr A' (n+2) c')).setCell ⟨pb,1,Yy⟩ (Yp Yv b)):=
   ((Eb hgr (jy HO.out _ (by simp[nS]))).trans (ym (p:=⟨pb,2,Yy⟩) hb4)).trans (ym (p:=⟨pb,1,Yy⟩) (heap_setCell_same _ pb 2 _ _ _ hb4))
  have HE:=aa (And.intro Ko (And.intro hbl (And.intro htk hmk)));clear Ko hbl htk hmk hb4 hgr hgrow hown';go_wp2;go_end0;exact⟨rfl,HE.out.1,HE.out.2.1,HE.out.2.2.1,HE.out.2.2.2⟩
 exact AllReadyH.nil
theorem NO(w:YA)(B pb:Nat)(d key:ByteArray)(s:St.PS)(a b:Nat)(h:PV w B pb d s)(h1:s.2<=a)(h2:a<=b)(h3:b<=d.size)(hd:d.size<=4611686018427387904)(hl:s.1.length<=1000000)(hBw:B<=w.1.size) :
  Calls Tryz.prog 79 #[Yt (Yz ⟨pb,0,Yy⟩),Yp Yv a,Yp Yv b,Yq key] w λe w'=>e=.returned (.tuple #[])/\PV w' B pb d (St.bk d.1.1 s a b key.1.1)/\Below B w w'/\eO nS w w':=
 (wV w B pb d key s a b h h1 h2 h3 hd hl hBw).mono λ_ _ ⟨x1,x2,x3,x4,_⟩=>⟨x1,x2,x3,x4⟩
def a8(w:YA)(A:Option Addr)(f:List St.Pt):Prop:=
 f.length > 0->∃b off,A=Yz ⟨b,off,Yy⟩/\b<w.1.size/\∀j (h:j<f.length),w.cell? ⟨b,off+j*3,Yy⟩=Yz (Ys f[j].1)/\w.cell? ⟨b,off+j*3+1,Yy⟩=Yz (Yq ⟨f[j].2.1.toArray⟩)/\w.cell? ⟨b,off+j*3+2,Yy⟩=Yz (Yq ⟨f[j].2.2.toArray⟩)
theorem a8.ai{w w':YA}{A:Option Addr}{f:List St.Pt}(h:a8 w A f)(u:ac w w'):a8 w' A f:=by
 intro h0;obtain⟨b,off,rfl,hb,hc⟩:=h h0;refine⟨b,off,rfl,Nat.lt_of_lt_of_le hb u.size,λj hj=>?_⟩;obtain⟨c0,c1,c2⟩:=hc j hj;exact⟨(u.cell hb).trans c0,(u.cell hb).trans c1,(u.cell hb).trans c2⟩
theorem AG(f:List St.Pt)(j:Nat)(h:j<f.length):(cd f)[j*3]?=Yz (Ys f[j].1)/\(cd f)[j*3+1]?=Yz (Yq ⟨f[j].2.1.toArray⟩)/\(cd f)[j*3+2]?=Yz (Yq ⟨f[j].2.2.toArray⟩):=by
 induction f generalizing j with
 | nil=>simp at h
 | cons x f ih=>
  match j,h with
  | 0,_=>exact⟨rfl,rfl,rfl⟩
  | j+1,h=>
   obtain⟨a,b,c⟩:=ih j (by simpa using h);have e:(j+1)*3=j*3+3:=by omega
   rw[e];exact⟨a,b,c⟩
theorem qo{w:YA}{B n c:Nat}{A:Option Addr}{f:List St.Pt}(h:w.ownsRow B 64 3 (Yr A n c) n (cd f))(hn:f.length=n):a8 w A f:=by
 intro h0;obtain⟨g,rfl,_,hg,hc⟩:=eE h (by omega);refine⟨g,0,rfl,hg,λj hj=>?_⟩;obtain⟨a,b,c⟩:=AG f j hj;rw[Nat.zero_add];exact⟨hc _ _ a,hc _ _ b,hc _ _ c⟩
theorem wB(w:YA)(B pb:Nat)(d:ByteArray)(s:St.PS)(h:PV w B pb d s)(h1:s.2<=d.size)(hd:d.size<=4611686018427387904)(hl:s.1.length<=1000000)(hBw:B<=w.1.size) :
  Calls Tryz.prog 80 #[Yt (Yz ⟨pb,0,Yy⟩)] w λe w'=>∃A c,e=.returned (Yr A (s.1.length+1) c)/\a8 w' A (St.cG d.1.1 s)/\s.1.length+1<=c/\c<=9223372036854775807/\Below B w w':=by
 obtain⟨hB,v,hbk,hown⟩:=h;obtain⟨ps,fr⟩:=s;simp only at hbk hown h1 hl;obtain⟨A,c,rfl,_⟩:=aI hown;have g0:w.cell? ⟨pb,0,Yy⟩=Yz (Yq d):=aj hbk 0;have g1:w.cell? ⟨pb,1,Yy⟩=Yz (Yp Yv fr):=aj hbk 1;have g2:w.cell? ⟨pb,2,Yy⟩=Yz (Yr A ps.length c):=aj hbk 2;haveI:af pb w:=af.of (ae hbk);obtain⟨i0,hi,hz0,hz1,hz2⟩:=info_parts nP;obtain⟨s1,hE1⟩:∃s1,d.extract fr d.size=s1:=⟨_,rfl⟩;have y1:(0:Int)<=fr:=by omega
 have y2:(fr:Int)<=d.size:=by omega
 have HO:=aa hown;have HK:=aa hbk
 have hcl:cd (St.cG d.1.1 (ps,fr))=cd ps++[Ys false,Yq ⟨#[]⟩,Yq s1]:=by
  have h0:(⟨(d.1.1.drop fr).toArray⟩:ByteArray)=s1:=by
   rw[<-hE1,<-zuy];unfold St.aZ;rw[List.take_of_length_le (by simp)]
  unfold St.cG;rw[oq];simp only[cd,List.flatMap_cons,List.flatMap_nil,List.append_nil,h0]
 have jP:=aa hcl;generalize hn:ps.length=n at *;clear hown hbk hB hcl;go_enter Tryz.func80,Tryz.ntmps80;go_wp2_with fail;go_region_held3 (λw'=>w'.cell? ⟨pb,0,none⟩=some (.string d)/\w'.cell? ⟨pb,1,none⟩=some (.int .i64 fr)/\w'.cell? ⟨pb,2,none⟩=some (.slice A n c)) (first|go_keep|exact⟨e0,e1,e2⟩|(refine⟨?_,?_,?_⟩<;>go_simp)) ((refine cM rfl (.tmp 6) (.tmp 17) 23 rfl B 64 i0 (.agg #[.bool false,.string ⟨#[]⟩,.string ⟨#[]⟩]) 3 40 Tryz.underlying23 hi hz0 hz1 hz2 rfl (by decide) (.slice A n c) n _ rfl (dN (HO.out.alloc (.cells #[.bool false,.string ⟨#[]⟩,.string s1] 64)) (ac.refl _).drew) ⟨w.1.size,0,none⟩ 1 1 [.bool false,.string ⟨#[]⟩,.string s1] rfl rfl (eL w _ _ _ 64 _ rfl) (BC _ _ _) (by unfold maxLen;omega) (by omega) (by simp;omega) ?_;intro v' w1 hown' hgrow _;have hgr:=aN (ac.gb (uZ:ac w (w.alloc (.cells #[.bool false,.string ⟨#[]⟩,.string s1] 64)).drew) (Value.slice A n c).ownBlock) hgrow (λg e=>Or.inl e);have hb4:w1.1[pb]?=_:=(hgr.block pb (ae HK.out) (λe=>aS HO.out HK.out (by decide) e.symm)).trans HK.out;have e0:w1.cell? ⟨pb,0,none⟩=some (.string d):=aj hb4 0;have e1:w1.cell? ⟨pb,1,none⟩=some (.int .i64 fr):=aj hb4 1;have e2:w1.cell? ⟨pb,2,none⟩=some (.slice A n c):=aj hb4 2;obtain⟨A',c',rfl,hq1,hq2⟩:=aI hown'))
 all_goals
  have hbl:Below B w w1:=(((Below.refl B w).alloc hBw _).drew).grown hgrow (by simp;omega) (λg hg=>aD HO.out g hg);have lT:a8 w1 A' (St.cG d.1.1 (ps,fr)):=qo (n:=n+1) (by rw[jP.out];exact hown') (by simp[St.cG,hn]);have HE:=aa (And.intro lT hbl);have mW:=aa hq1;clear hbl lT hgrow hown' hq1;go_wp2;go_ret;exact⟨_,_,rfl,HE.out.1,mW.out,by unfold maxLen at hq2;omega,HE.out.2⟩
