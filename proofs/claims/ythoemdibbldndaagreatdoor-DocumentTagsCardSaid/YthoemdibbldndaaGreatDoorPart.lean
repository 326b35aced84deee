/- The contracts of the parts' builder: NewParts, Unit, List. -/
import Derived.Test.YthoemdibbldndaaGreatDoorGC
import Derived.Deep.RegionHeld3
import Derived.OrdersHeld
set_option linter.all false
set_option maxHeartbeats 0
set_option maxRecDepth 20000
open Go.Value renaming int->UM,string->UN,slice->UO,bool->UP,pointer->UQ
open Go.IntKind renaming i64->US
open Go.Obj renaming cells->UT
open Option renaming none->UW,some->UX
open Go renaming World->UY
namespace Go.Proofs.YthoemdibbldndaaGreatDoor
open Go.RowKit
theorem DX{P:Program}{md:Region.Mode}{ops:Array Oper}{Q:Exit->Act->UY->Prop}{fuel:Nat}{l l':Array Bool}{a:Act}{w:UY}(h:l=l')(hw:wpAny P md ops Q fuel l' a w):wpAny P md ops Q fuel l a w:=h ▸ hw
theorem aK{P:Program}{md:Region.Mode}{ops:Array Oper}{Q:Exit->Act->UY->Prop}{S:UY->Prop}{fuel:Nat}{l l':Array Bool}{a:Act}{w:UY}(h:l=l')(hw:wpAnyH P md ops Q S fuel l' a w):wpAnyH P md ops Q S fuel l a w:=h ▸ hw
def AllReadyH(P:Program)(md:Region.Mode)(ops:Array Oper)(Q:Exit->Act->UY->Prop)(S:UY->Prop)(fuel:Nat)(listed:Array Bool)(a:Act)(w:UY)(rs:List Nat):Prop:=
 ∀i∈rs,wpOp P ops Q i (λa' w'=>S w'/\wpAnyH P md ops Q S fuel (listed.setIfInBounds i true) a' w') a w
theorem AllReadyH.nil{P:Program}{md:Region.Mode}{ops:Array Oper}{Q:Exit->Act->UY->Prop}{S:UY->Prop}{fuel:Nat}{listed:Array Bool}{a:Act}{w:UY}:AllReadyH P md ops Q S fuel listed a w []:=λ_ h=>by cases h
theorem AllReadyH.cons{P:Program}{md:Region.Mode}{ops:Array Oper}{Q:Exit->Act->UY->Prop}{S:UY->Prop}{fuel:Nat}{listed:Array Bool}{a:Act}{w:UY}{i:Nat}{o:Oper}{rs:List Nat}(ho:ops[i]?=UX o)
  (h:∀K':Act->UY->Prop,(∀a w,(S w/\wpAnyH P md ops Q S fuel (listed.setIfInBounds i true) a w)->K' a w)->if Region.wanted o (yielded ops a.tmps)=true then Oper.wp P o a w K' Q else K' (a.put o.dst undef) w)
  (hs:AllReadyH P md ops Q S fuel listed a w rs):AllReadyH P md ops Q S fuel listed a w (i :: rs):=λj hj=>by
 rcases List.mem_cons.1 hj with rfl|hj
 ·exact wpOp_step ho h
 exact hs j hj
theorem wpAnyH_ready{P:Program}{md:Region.Mode}{ops:Array Oper}{Q:Exit->Act->UY->Prop}{S:UY->Prop}{rs:List Nat}{fuel:Nat}{listed:Array Bool}{a:Act}{w:UY}(hr:Region.ready md ops listed=rs)(hne:rs≠[])
  (h:AllReadyH P md ops Q S fuel listed a w rs):wpAnyH P md ops Q S (fuel+1) listed a w:=wpAnyH_all hr hne h
theorem zN(w2:UY)(a b c d x y:Value)(e:TypeId)(g:Nat)(hb:g=w2.1.size):∀j u,[a,b,c,d,x,y][j]?=UX u->(w2.alloc (UT #[a,b,c,d,x,y] e)).cell? ((⟨g,0,UW⟩:Addr).add j)=UX u:=by
 subst hb;intro j u hj
 match j,hj with
 | 0,hj=>simp at hj;subst hj;simp[Addr.add]
 | 1,hj=>simp at hj;subst hj;simp[Addr.add]
 | 2,hj=>simp at hj;subst hj;simp[Addr.add]
 | 3,hj=>simp at hj;subst hj;simp[Addr.add]
 | 4,hj=>simp at hj;subst hj;simp[Addr.add]
 | 5,hj=>simp at hj;subst hj;simp[Addr.add]
 | j+6,hj=>simp at hj
theorem rh(b c:Bool)(s t x y:ByteArray):∀u∈[UP b,UN s,UN t,UP c,UN x,UN y],u.oneCell'=true:=by
 intro u hu;simp at hu;rcases hu with rfl|rfl|rfl|rfl|rfl|rfl<;>rfl
theorem yJ(b:Bool)(s t:ByteArray):∀u∈[UP b,UN s,UN t],u.oneCell'=true:=by
 intro u hu;simp at hu;rcases hu with rfl|rfl|rfl<;>rfl
def mC(w w':UY):Prop:=∀(k:Nat) es n,w.1[k]?=UX (.map es n)->w'.1[k]?=UX (.map es n)
theorem mC.trans{a b c:UY}(h:mC a b)(k:mC b c):mC a c:=λi es n hi=>k i es n (h i es n hi)
theorem By{w w':UY}{row:Option Nat}(h:w.grownBy w' row)(hr:∀g,row=UX g->∃cs T fr,w.1[g]?=UX (UT cs T fr)/\T∈mY):mC w w':=by
 intro k es n hk;refine(h.block k (ae hk) λe=>?_).trans hk;obtain⟨cs,T,fr,h1,_⟩:=hr k e.symm;rw[hk]at h1;cases h1
theorem vR{w:UY}{p:Addr}{v:Value}{cs:Array Value}{T:TypeId}{fr:Nat × Nat}(hb:w.1[p.block]?=UX (UT cs T fr)):mC w (w.setCell p v):=by
 intro k es n hk;unfold World.setCell;simp only[Array.getElem?_modify];rw[if_neg]
 ·exact hk
 intro e;subst e;rw[hb]at hk;cases hk
theorem uU(w:UY)(B pb:Nat)(d key:ByteArray)(s:St.PS)(a b:Nat)(h:PV w B pb d s)(h1:s.2<=a)(h2:a<=b)(h3:b<=d.size)(hd:d.size<=4611686018427387904)(hl:s.1.length<=1000000)(hBw:B<=w.1.size) :
  Calls Tryz.prog 79 #[UQ (UX ⟨pb,0,UW⟩),UM US a,UM US b,UN key] w λe w'=>e=.returned (.tuple #[])/\PV w' B pb d (St.bg d.1.1 s a b key.1.1)/\Below B w w'/\eC mY w w'/\mC w w':=by
 obtain⟨hB,v,hbk,hown⟩:=h;obtain⟨ps,fr⟩:=s;simp only at hbk hown h1 hl;obtain⟨A,c,rfl,_⟩:=aL hown;have g0:w.cell? ⟨pb,0,UW⟩=UX (UN d):=ak hbk 0;have g1:w.cell? ⟨pb,1,UW⟩=UX (UM US fr):=ak hbk 1;have g2:w.cell? ⟨pb,2,UW⟩=UX (UO A ps.length c):=ak hbk 2;haveI:af pb w:=af.of (ae hbk);obtain⟨i0,hi,hz0,hz1,hz2⟩:=info_parts mV;obtain⟨s1,hE1⟩:∃s1,d.extract fr a=s1:=⟨_,rfl⟩;obtain⟨s2,hE2⟩:∃s2,d.extract a b=s2:=⟨_,rfl⟩;have y1:(0:Int)<=fr:=by omega
 have y2:(fr:Int)<=a:=by omega
 have y3:(a:Int)<=b:=by omega
 have y4:(b:Int)<=d.size:=by omega
 have y5:(a:Int)<=d.size:=by omega
 have HO:=aa hown;have HB:=aa hB;have HK:=aa hbk
 have hcl:bW (ps++[(false,[],St.aY d.1.1 fr a),(true,key.1.1,St.aY d.1.1 a b)])=bW ps++[UP false,UN ⟨#[]⟩,UN s1,UP true,UN key,UN s2]:=by
  rw[nG];simp only[bW,List.flatMap_cons,List.flatMap_nil,List.append_nil,tp,be,hE1,hE2];rfl
 have jt:=aa hcl;generalize hn:ps.length=n at *;clear hown hbk hB hcl;go_enter Tryz.func79,Tryz.ntmps79;go_wp2_with fail;refine wp_region_any (by kernel_rfl) ?_
 try (change wpAny _ _ _ _ _ _ _ (World.drew _))
 refine DX (l':=#[bF,bF,bF,bF,bF,bF,bF,bF,bF,bF,bF,bF,bF,bF,bF,bF,bF,bF,bF,bF,bF,bF,bF,bF,bF,bF,bF,bF,bF,bF]) (by kernel_rfl) ?_;refine wpAny_of_held (S:=λW=>W.cell? ⟨pb,0,UW⟩=UX (UN d)/\W.cell? ⟨pb,1,UW⟩=UX (UM US fr)) _ _ _ _ ?_;refine wpAnyH_take (i:=0) (oi:=⟨UX 8,_,_,_,_,_⟩) (v:=?_) rfl (by kernel_rfl) (by kernel_rfl) (by kernel_rfl) (λ_ _ _ h=>h) (Or.inl ⟨by rfl,?_⟩) ?_ ?_;rotate_left 1
 ·(intro W9 az;have dh:W9.cell? ⟨pb,0,UW⟩=UX (UN d):=az.1;have di:W9.cell? ⟨pb,1,UW⟩=UX (UM US fr):=az.2;clear az;go_simp;try with_reducible rfl)
 ·first|assumption|exact⟨e0,e1⟩|(refine⟨?_,?_⟩<;>(go_simp;done))
 conv=>arg 8;simp only[Act.put,aq,al,ar]
 refine aK (l':=#[bT,bF,bF,bF,bF,bF,bF,bF,bF,bF,bF,bF,bF,bF,bF,bF,bF,bF,bF,bF,bF,bF,bF,bF,bF,bF,bF,bF,bF,bF]) (by kernel_rfl) ?_;refine wpAnyH_take (i:=1) (oi:=⟨UX 9,_,_,_,_,_⟩) (v:=?_) rfl (by kernel_rfl) (by kernel_rfl) (by kernel_rfl) (λ_ _ _ h=>h) (Or.inl ⟨by rfl,?_⟩) ?_ ?_;rotate_left 1
 ·(intro W9 az;have dh:W9.cell? ⟨pb,0,UW⟩=UX (UN d):=az.1;have di:W9.cell? ⟨pb,1,UW⟩=UX (UM US fr):=az.2;clear az;go_simp;try with_reducible rfl)
 ·first|assumption|exact⟨e0,e1⟩|(refine⟨?_,?_⟩<;>(go_simp;done))
 conv=>arg 8;simp only[Act.put,aq,al,ar]
 refine aK (l':=#[bT,bT,bF,bF,bF,bF,bF,bF,bF,bF,bF,bF,bF,bF,bF,bF,bF,bF,bF,bF,bF,bF,bF,bF,bF,bF,bF,bF,bF,bF]) (by kernel_rfl) ?_;refine wpAnyH_take (i:=2) (oi:=⟨UX 10,_,_,_,_,_⟩) (v:=?_) rfl (by kernel_rfl) (by kernel_rfl) (by kernel_rfl) (λ_ _ _ h=>h) (Or.inl ⟨by rfl,?_⟩) ?_ ?_;rotate_left 1
 ·(intro W9 az;have dh:W9.cell? ⟨pb,0,UW⟩=UX (UN d):=az.1;have di:W9.cell? ⟨pb,1,UW⟩=UX (UM US fr):=az.2;clear az;go_simp;try with_reducible rfl)
 ·first|assumption|exact⟨e0,e1⟩|(refine⟨?_,?_⟩<;>(go_simp;done))
 conv=>arg 8;simp only[Act.put,aq,al,ar]
 refine aK (l':=#[bT,bT,bT,bF,bF,bF,bF,bF,bF,bF,bF,bF,bF,bF,bF,bF,bF,bF,bF,bF,bF,bF,bF,bF,bF,bF,bF,bF,bF,bF]) (by kernel_rfl) ?_;refine wpAnyH_take (i:=3) (oi:=⟨UX 11,_,_,_,_,_⟩) (v:=?_) rfl (by kernel_rfl) (by kernel_rfl) (by kernel_rfl) (λ_ _ _ h=>h) (Or.inl ⟨by rfl,?_⟩) ?_ ?_;rotate_left 1
 ·(intro W9 az;have dh:W9.cell? ⟨pb,0,UW⟩=UX (UN d):=az.1;have di:W9.cell? ⟨pb,1,UW⟩=UX (UM US fr):=az.2;clear az;go_simp;try with_reducible rfl)
 ·first|assumption|exact⟨e0,e1⟩|(refine⟨?_,?_⟩<;>(go_simp;done))
 conv=>arg 8;simp only[Act.put,aq,al,ar]
 refine aK (l':=#[bT,bT,bT,bT,bF,bF,bF,bF,bF,bF,bF,bF,bF,bF,bF,bF,bF,bF,bF,bF,bF,bF,bF,bF,bF,bF,bF,bF,bF,bF]) (by kernel_rfl) ?_;refine wpAnyH_take (i:=5) (oi:=⟨UX 13,_,_,_,_,_⟩) (v:=?_) rfl (by kernel_rfl) (by kernel_rfl) (by kernel_rfl) (λ_ _ _ h=>h) (Or.inl ⟨by rfl,?_⟩) ?_ ?_;rotate_left 1
 ·(intro W9 az;have dh:W9.cell? ⟨pb,0,UW⟩=UX (UN d):=az.1;have di:W9.cell? ⟨pb,1,UW⟩=UX (UM US fr):=az.2;clear az;go_simp;try with_reducible rfl)
 ·first|assumption|exact⟨e0,e1⟩|(refine⟨?_,?_⟩<;>(go_simp;done))
 conv=>arg 8;simp only[Act.put,aq,al,ar]
 refine aK (l':=#[bT,bT,bT,bT,bF,bT,bF,bF,bF,bF,bF,bF,bF,bF,bF,bF,bF,bF,bF,bF,bF,bF,bF,bF,bF,bF,bF,bF,bF,bF]) (by kernel_rfl) ?_;refine wpAnyH_take (i:=6) (oi:=⟨UX 14,_,_,_,_,_⟩) (v:=?_) rfl (by kernel_rfl) (by kernel_rfl) (by kernel_rfl) (λ_ _ _ h=>h) (Or.inl ⟨by rfl,?_⟩) ?_ ?_;rotate_left 1
 ·(intro W9 az;have dh:W9.cell? ⟨pb,0,UW⟩=UX (UN d):=az.1;have di:W9.cell? ⟨pb,1,UW⟩=UX (UM US fr):=az.2;clear az;go_simp;try with_reducible rfl)
 ·first|assumption|exact⟨e0,e1⟩|(refine⟨?_,?_⟩<;>(go_simp;done))
 conv=>arg 8;simp only[Act.put,aq,al,ar]
 refine aK (l':=#[bT,bT,bT,bT,bF,bT,bT,bF,bF,bF,bF,bF,bF,bF,bF,bF,bF,bF,bF,bF,bF,bF,bF,bF,bF,bF,bF,bF,bF,bF]) (by kernel_rfl) ?_;refine wpAnyH_take (i:=7) (oi:=⟨UX 15,_,_,_,_,_⟩) (v:=?_) rfl (by kernel_rfl) (by kernel_rfl) (by kernel_rfl) (λ_ _ _ h=>h) (Or.inl ⟨by rfl,?_⟩) ?_ ?_;rotate_left 1
 ·(intro W9 az;have dh:W9.cell? ⟨pb,0,UW⟩=UX (UN d):=az.1;have di:W9.cell? ⟨pb,1,UW⟩=UX (UM US fr):=az.2;clear az;go_simp;try with_reducible rfl)
 ·first|assumption|exact⟨e0,e1⟩|(refine⟨?_,?_⟩<;>(go_simp;done))
 conv=>arg 8;simp only[Act.put,aq,al,ar]
 refine aK (l':=#[bT,bT,bT,bT,bF,bT,bT,bT,bF,bF,bF,bF,bF,bF,bF,bF,bF,bF,bF,bF,bF,bF,bF,bF,bF,bF,bF,bF,bF,bF]) (by kernel_rfl) ?_;refine wpAnyH_take (i:=8) (oi:=⟨UX 16,_,_,_,_,_⟩) (v:=?_) rfl (by kernel_rfl) (by kernel_rfl) (by kernel_rfl) (λ_ _ _ h=>h) (Or.inl ⟨by rfl,?_⟩) ?_ ?_;rotate_left 1
 ·(intro W9 az;have dh:W9.cell? ⟨pb,0,UW⟩=UX (UN d):=az.1;have di:W9.cell? ⟨pb,1,UW⟩=UX (UM US fr):=az.2;clear az;go_simp;try with_reducible rfl)
 ·first|assumption|exact⟨e0,e1⟩|(refine⟨?_,?_⟩<;>(go_simp;done))
 conv=>arg 8;simp only[Act.put,aq,al,ar]
 refine aK (l':=#[bT,bT,bT,bT,bF,bT,bT,bT,bT,bF,bF,bF,bF,bF,bF,bF,bF,bF,bF,bF,bF,bF,bF,bF,bF,bF,bF,bF,bF,bF]) (by kernel_rfl) ?_;refine wpAnyH_take (i:=9) (oi:=⟨UX 17,_,_,_,_,_⟩) (v:=?_) rfl (by kernel_rfl) (by kernel_rfl) (by kernel_rfl) (λ_ _ _ h=>h) (Or.inl ⟨by rfl,?_⟩) ?_ ?_;rotate_left 1
 ·(intro W9 az;have dh:W9.cell? ⟨pb,0,UW⟩=UX (UN d):=az.1;have di:W9.cell? ⟨pb,1,UW⟩=UX (UM US fr):=az.2;clear az;go_simp;try with_reducible rfl)
 ·first|assumption|exact⟨e0,e1⟩|(refine⟨?_,?_⟩<;>(go_simp;done))
 conv=>arg 8;simp only[Act.put,aq,al,ar]
 refine aK (l':=#[bT,bT,bT,bT,bF,bT,bT,bT,bT,bT,bF,bF,bF,bF,bF,bF,bF,bF,bF,bF,bF,bF,bF,bF,bF,bF,bF,bF,bF,bF]) (by kernel_rfl) ?_;refine wpAnyH_take (i:=10) (oi:=⟨UX 18,_,_,_,_,_⟩) (v:=?_) rfl (by kernel_rfl) (by kernel_rfl) (by kernel_rfl) (λ_ _ _ h=>h) (Or.inl ⟨by rfl,?_⟩) ?_ ?_;rotate_left 1
 ·(intro W9 az;have dh:W9.cell? ⟨pb,0,UW⟩=UX (UN d):=az.1;have di:W9.cell? ⟨pb,1,UW⟩=UX (UM US fr):=az.2;clear az;go_simp;try with_reducible rfl)
 ·first|assumption|exact⟨e0,e1⟩|(refine⟨?_,?_⟩<;>(go_simp;done))
 conv=>arg 8;simp only[Act.put,aq,al,ar]
 refine aK (l':=#[bT,bT,bT,bT,bF,bT,bT,bT,bT,bT,bT,bF,bF,bF,bF,bF,bF,bF,bF,bF,bF,bF,bF,bF,bF,bF,bF,bF,bF,bF]) (by kernel_rfl) ?_;refine wpAnyH_take (i:=11) (oi:=⟨UX 19,_,_,_,_,_⟩) (v:=?_) rfl (by kernel_rfl) (by kernel_rfl) (by kernel_rfl) (λ_ _ _ h=>h) (Or.inl ⟨by rfl,?_⟩) ?_ ?_;rotate_left 1
 ·(intro W9 az;have dh:W9.cell? ⟨pb,0,UW⟩=UX (UN d):=az.1;have di:W9.cell? ⟨pb,1,UW⟩=UX (UM US fr):=az.2;clear az;go_simp;try with_reducible rfl)
 ·first|assumption|exact⟨e0,e1⟩|(refine⟨?_,?_⟩<;>(go_simp;done))
 conv=>arg 8;simp only[Act.put,aq,al,ar]
 refine aK (l':=#[bT,bT,bT,bT,bF,bT,bT,bT,bT,bT,bT,bT,bF,bF,bF,bF,bF,bF,bF,bF,bF,bF,bF,bF,bF,bF,bF,bF,bF,bF]) (by kernel_rfl) ?_;refine wpAnyH_take (i:=12) (oi:=⟨UX 20,_,_,_,_,_⟩) (v:=?_) rfl (by kernel_rfl) (by kernel_rfl) (by kernel_rfl) (λ_ _ _ h=>h) (Or.inl ⟨by rfl,?_⟩) ?_ ?_;rotate_left 1
 ·(intro W9 az;have dh:W9.cell? ⟨pb,0,UW⟩=UX (UN d):=az.1;have di:W9.cell? ⟨pb,1,UW⟩=UX (UM US fr):=az.2;clear az;go_simp;try with_reducible rfl)
 ·first|assumption|exact⟨e0,e1⟩|(refine⟨?_,?_⟩<;>(go_simp;done))
 conv=>arg 8;simp only[Act.put,aq,al,ar]
 refine aK (l':=#[bT,bT,bT,bT,bF,bT,bT,bT,bT,bT,bT,bT,bT,bF,bF,bF,bF,bF,bF,bF,bF,bF,bF,bF,bF,bF,bF,bF,bF,bF]) (by kernel_rfl) ?_;refine wpAnyH_take (i:=13) (oi:=⟨UX 21,_,_,_,_,_⟩) (v:=?_) rfl (by kernel_rfl) (by kernel_rfl) (by kernel_rfl) (λ_ _ _ h=>h) (Or.inl ⟨by rfl,?_⟩) ?_ ?_;rotate_left 1
 ·(intro W9 az;have dh:W9.cell? ⟨pb,0,UW⟩=UX (UN d):=az.1;have di:W9.cell? ⟨pb,1,UW⟩=UX (UM US fr):=az.2;clear az;go_simp;try with_reducible rfl)
 ·first|assumption|exact⟨e0,e1⟩|(refine⟨?_,?_⟩<;>(go_simp;done))
 conv=>arg 8;simp only[Act.put,aq,al,ar]
 refine aK (l':=#[bT,bT,bT,bT,bF,bT,bT,bT,bT,bT,bT,bT,bT,bT,bF,bF,bF,bF,bF,bF,bF,bF,bF,bF,bF,bF,bF,bF,bF,bF]) (by kernel_rfl) ?_;refine wpAnyH_take (i:=14) (oi:=⟨UX 22,_,_,_,_,_⟩) (v:=?_) rfl (by kernel_rfl) (by kernel_rfl) (by kernel_rfl) (λ_ _ _ h=>h) (Or.inl ⟨by rfl,?_⟩) ?_ ?_;rotate_left 1
 ·(intro W9 az;have dh:W9.cell? ⟨pb,0,UW⟩=UX (UN d):=az.1;have di:W9.cell? ⟨pb,1,UW⟩=UX (UM US fr):=az.2;clear az;go_simp;try with_reducible rfl)
 ·first|assumption|exact⟨e0,e1⟩|(refine⟨?_,?_⟩<;>(go_simp;done))
 conv=>arg 8;simp only[Act.put,aq,al,ar]
 refine aK (l':=#[bT,bT,bT,bT,bF,bT,bT,bT,bT,bT,bT,bT,bT,bT,bT,bF,bF,bF,bF,bF,bF,bF,bF,bF,bF,bF,bF,bF,bF,bF]) (by kernel_rfl) ?_;refine wpAnyH_take (i:=15) (oi:=⟨UX 23,_,_,_,_,_⟩) (v:=?_) rfl (by kernel_rfl) (by kernel_rfl) (by kernel_rfl) (λ_ _ _ h=>h) (Or.inl ⟨by rfl,?_⟩) ?_ ?_;rotate_left 1
 ·(intro W9 az;have dh:W9.cell? ⟨pb,0,UW⟩=UX (UN d):=az.1;have di:W9.cell? ⟨pb,1,UW⟩=UX (UM US fr):=az.2;clear az;go_simp;try with_reducible rfl)
 ·first|assumption|exact⟨e0,e1⟩|(refine⟨?_,?_⟩<;>(go_simp;done))
 conv=>arg 8;simp only[Act.put,aq,al,ar]
 refine aK (l':=#[bT,bT,bT,bT,bF,bT,bT,bT,bT,bT,bT,bT,bT,bT,bT,bT,bF,bF,bF,bF,bF,bF,bF,bF,bF,bF,bF,bF,bF,bF]) (by kernel_rfl) ?_;refine wpAnyH_take (i:=16) (oi:=⟨UX 24,_,_,_,_,_⟩) (v:=?_) rfl (by kernel_rfl) (by kernel_rfl) (by kernel_rfl) (λ_ _ _ h=>h) (Or.inl ⟨by rfl,?_⟩) ?_ ?_;rotate_left 1
 ·(intro W9 az;have dh:W9.cell? ⟨pb,0,UW⟩=UX (UN d):=az.1;have di:W9.cell? ⟨pb,1,UW⟩=UX (UM US fr):=az.2;clear az;go_simp;try with_reducible rfl)
 ·first|assumption|exact⟨e0,e1⟩|(refine⟨?_,?_⟩<;>(go_simp;done))
 conv=>arg 8;simp only[Act.put,aq,al,ar]
 refine aK (l':=#[bT,bT,bT,bT,bF,bT,bT,bT,bT,bT,bT,bT,bT,bT,bT,bT,bT,bF,bF,bF,bF,bF,bF,bF,bF,bF,bF,bF,bF,bF]) (by kernel_rfl) ?_;refine wpAnyH_take (i:=17) (oi:=⟨UX 25,_,_,_,_,_⟩) (v:=?_) rfl (by kernel_rfl) (by kernel_rfl) (by kernel_rfl) (λ_ _ _ h=>h) (Or.inl ⟨by rfl,?_⟩) ?_ ?_;rotate_left 1
 ·(intro W9 az;have dh:W9.cell? ⟨pb,0,UW⟩=UX (UN d):=az.1;have di:W9.cell? ⟨pb,1,UW⟩=UX (UM US fr):=az.2;clear az;go_simp;try with_reducible rfl)
 ·first|assumption|exact⟨e0,e1⟩|(refine⟨?_,?_⟩<;>(go_simp;done))
 conv=>arg 8;simp only[Act.put,aq,al,ar]
 refine aK (l':=#[bT,bT,bT,bT,bF,bT,bT,bT,bT,bT,bT,bT,bT,bT,bT,bT,bT,bT,bF,bF,bF,bF,bF,bF,bF,bF,bF,bF,bF,bF]) (by kernel_rfl) ?_;refine wpAnyH_take (i:=18) (oi:=⟨UX 26,_,_,_,_,_⟩) (v:=?_) rfl (by kernel_rfl) (by kernel_rfl) (by kernel_rfl) (λ_ _ _ h=>h) (Or.inl ⟨by rfl,?_⟩) ?_ ?_;rotate_left 1
 ·(intro W9 az;have dh:W9.cell? ⟨pb,0,UW⟩=UX (UN d):=az.1;have di:W9.cell? ⟨pb,1,UW⟩=UX (UM US fr):=az.2;clear az;go_simp;try with_reducible rfl)
 ·first|assumption|exact⟨e0,e1⟩|(refine⟨?_,?_⟩<;>(go_simp;done))
 conv=>arg 8;simp only[Act.put,aq,al,ar]
 refine aK (l':=#[bT,bT,bT,bT,bF,bT,bT,bT,bT,bT,bT,bT,bT,bT,bT,bT,bT,bT,bT,bF,bF,bF,bF,bF,bF,bF,bF,bF,bF,bF]) (by kernel_rfl) ?_;refine wpAnyH_take (i:=19) (oi:=⟨UX 27,_,_,_,_,_⟩) (v:=?_) rfl (by kernel_rfl) (by kernel_rfl) (by kernel_rfl) (λ_ _ _ h=>h) (Or.inl ⟨by rfl,?_⟩) ?_ ?_;rotate_left 1
 ·(intro W9 az;have dh:W9.cell? ⟨pb,0,UW⟩=UX (UN d):=az.1;have di:W9.cell? ⟨pb,1,UW⟩=UX (UM US fr):=az.2;clear az;go_simp;try with_reducible rfl)
 ·first|assumption|exact⟨e0,e1⟩|(refine⟨?_,?_⟩<;>(go_simp;done))
 conv=>arg 8;simp only[Act.put,aq,al,ar]
 refine aK (l':=#[bT,bT,bT,bT,bF,bT,bT,bT,bT,bT,bT,bT,bT,bT,bT,bT,bT,bT,bT,bT,bF,bF,bF,bF,bF,bF,bF,bF,bF,bF]) (by kernel_rfl) ?_;refine wpAnyH_take (i:=20) (oi:=⟨UX 28,_,_,_,_,_⟩) (v:=?_) rfl (by kernel_rfl) (by kernel_rfl) (by kernel_rfl) (λ_ _ _ h=>h) (Or.inl ⟨by rfl,?_⟩) ?_ ?_;rotate_left 1
 ·(intro W9 az;have dh:W9.cell? ⟨pb,0,UW⟩=UX (UN d):=az.1;have di:W9.cell? ⟨pb,1,UW⟩=UX (UM US fr):=az.2;clear az;go_simp;try with_reducible rfl)
 ·first|assumption|exact⟨e0,e1⟩|(refine⟨?_,?_⟩<;>(go_simp;done))
 conv=>arg 8;simp only[Act.put,aq,al,ar]
 refine aK (l':=#[bT,bT,bT,bT,bF,bT,bT,bT,bT,bT,bT,bT,bT,bT,bT,bT,bT,bT,bT,bT,bT,bF,bF,bF,bF,bF,bF,bF,bF,bF]) (by kernel_rfl) ?_;refine wpAnyH_take (i:=21) (oi:=⟨UX 29,_,_,_,_,_⟩) (v:=?_) rfl (by kernel_rfl) (by kernel_rfl) (by kernel_rfl) (λ_ _ _ h=>h) (Or.inl ⟨by rfl,?_⟩) ?_ ?_;rotate_left 1
 ·(intro W9 az;have dh:W9.cell? ⟨pb,0,UW⟩=UX (UN d):=az.1;have di:W9.cell? ⟨pb,1,UW⟩=UX (UM US fr):=az.2;clear az;go_simp;try with_reducible rfl)
 ·first|assumption|exact⟨e0,e1⟩|(refine⟨?_,?_⟩<;>(go_simp;done))
 conv=>arg 8;simp only[Act.put,aq,al,ar]
 refine aK (l':=#[bT,bT,bT,bT,bF,bT,bT,bT,bT,bT,bT,bT,bT,bT,bT,bT,bT,bT,bT,bT,bT,bT,bF,bF,bF,bF,bF,bF,bF,bF]) (by kernel_rfl) ?_;refine wpAnyH_take (i:=22) (oi:=⟨UX 30,_,_,_,_,_⟩) (v:=?_) rfl (by kernel_rfl) (by kernel_rfl) (by kernel_rfl) (λ_ _ _ h=>h) (Or.inl ⟨by rfl,?_⟩) ?_ ?_;rotate_left 1
 ·(intro W9 az;have dh:W9.cell? ⟨pb,0,UW⟩=UX (UN d):=az.1;have di:W9.cell? ⟨pb,1,UW⟩=UX (UM US fr):=az.2;clear az;go_simp;try with_reducible rfl)
 ·first|assumption|exact⟨e0,e1⟩|(refine⟨?_,?_⟩<;>(go_simp;done))
 conv=>arg 8;simp only[Act.put,aq,al,ar]
 refine aK (l':=#[bT,bT,bT,bT,bF,bT,bT,bT,bT,bT,bT,bT,bT,bT,bT,bT,bT,bT,bT,bT,bT,bT,bT,bF,bF,bF,bF,bF,bF,bF]) (by kernel_rfl) ?_;refine wpAnyH_take (i:=23) (oi:=⟨UX 31,_,_,_,_,_⟩) (v:=?_) rfl (by kernel_rfl) (by kernel_rfl) (by kernel_rfl) (λ_ _ _ h=>h) (Or.inl ⟨by rfl,?_⟩) ?_ ?_;rotate_left 1
 ·(intro W9 az;have dh:W9.cell? ⟨pb,0,UW⟩=UX (UN d):=az.1;have di:W9.cell? ⟨pb,1,UW⟩=UX (UM US fr):=az.2;clear az;go_simp;try with_reducible rfl)
 ·first|assumption|exact⟨e0,e1⟩|(refine⟨?_,?_⟩<;>(go_simp;done))
 conv=>arg 8;simp only[Act.put,aq,al,ar]
 refine aK (l':=#[bT,bT,bT,bT,bF,bT,bT,bT,bT,bT,bT,bT,bT,bT,bT,bT,bT,bT,bT,bT,bT,bT,bT,bT,bF,bF,bF,bF,bF,bF]) (by kernel_rfl) ?_;refine wpAnyH_take (i:=24) (oi:=⟨UX 32,_,_,_,_,_⟩) (v:=?_) rfl (by kernel_rfl) (by kernel_rfl) (by kernel_rfl) (λ_ _ _ h=>h) (Or.inl ⟨by rfl,?_⟩) ?_ ?_;rotate_left 1
 ·(intro W9 az;have dh:W9.cell? ⟨pb,0,UW⟩=UX (UN d):=az.1;have di:W9.cell? ⟨pb,1,UW⟩=UX (UM US fr):=az.2;clear az;go_simp;try with_reducible rfl)
 ·first|assumption|exact⟨e0,e1⟩|(refine⟨?_,?_⟩<;>(go_simp;done))
 conv=>arg 8;simp only[Act.put,aq,al,ar]
 refine aK (l':=#[bT,bT,bT,bT,bF,bT,bT,bT,bT,bT,bT,bT,bT,bT,bT,bT,bT,bT,bT,bT,bT,bT,bT,bT,bT,bF,bF,bF,bF,bF]) (by kernel_rfl) ?_;refine wpAnyH_ready (rs:=[4,25]) (by kernel_rfl) (by simp) ?_;refine AllReadyH.cons (o:=⟨UX 12,_,_,_,_,_⟩) rfl (λK hK=>?_) ?_
 ·go_simp;refine hK _ _ ⟨?_,?_⟩
  ·clear hK K;first|assumption|exact⟨e0,e1⟩|(refine⟨?_,?_⟩<;>(go_simp;done))
  clear hK K
  conv=>arg 8;simp only[Act.put,aq,al,ar]
  refine aK (l':=#[bT,bT,bT,bT,bT,bT,bT,bT,bT,bT,bT,bT,bT,bT,bT,bT,bT,bT,bT,bT,bT,bT,bT,bT,bT,bF,bF,bF,bF,bF]) (by kernel_rfl) ?_;refine wpAnyH_ready (rs:=[25]) (by kernel_rfl) (by simp) ?_;refine AllReadyH.cons (o:=⟨UX 33,_,_,_,_,_⟩) rfl (λK hK=>?_) AllReadyH.nil;go_simp;refine hK _ _ ⟨?_,?_⟩
  ·clear hK K;first|assumption|exact⟨e0,e1⟩|(refine⟨?_,?_⟩<;>(go_simp;done))
  clear hK K
  conv=>arg 8;simp only[Act.put,aq,al,ar]
  refine aK (l':=#[bT,bT,bT,bT,bT,bT,bT,bT,bT,bT,bT,bT,bT,bT,bT,bT,bT,bT,bT,bT,bT,bT,bT,bT,bT,bT,bF,bF,bF,bF]) (by kernel_rfl) ?_;refine wpAnyH_ready (rs:=[26]) (by kernel_rfl) (by simp) ?_;refine AllReadyH.cons (o:=⟨some 34,_,_,_,_,_⟩) rfl (λK hK=>?_) AllReadyH.nil;refine cH rfl (.tmp 12) (.tmp 33) 23 rfl B 64 i0 (.agg #[.bool false,.string ⟨#[]⟩,.string ⟨#[]⟩]) 3 40 Tryz.underlying23 hi hz0 hz1 hz2 rfl (by decide) (.slice A n c) n _ rfl (eK (HO.out.alloc (.cells #[.bool false,.string ⟨#[]⟩,.string s1,.bool true,.string key,.string s2] 64)) (ac.refl _).drew) ⟨w.1.size,0,none⟩ 2 2 [.bool false,.string ⟨#[]⟩,.string s1,.bool true,.string key,.string s2] rfl rfl (zN w _ _ _ _ _ _ 64 _ rfl) (rh _ _ _ _ _ _) (by unfold maxLen;omega) (by omega) (by simp;omega) ?_;intro v' w1 hown' hgrow _;have hgr:=aW (ac.gb (uZ:ac w (w.alloc (.cells #[.bool false,.string ⟨#[]⟩,.string s1,.bool true,.string key,.string s2] 64)).drew) (Value.slice A n c).ownBlock) hgrow (λg e=>Or.inl e);have hb4:w1.1[pb]?=_:=(hgr.block pb (ae HK.out) (λe=>aU HO.out HK.out (by decide) e.symm)).trans HK.out;have e0:w1.cell? ⟨pb,0,none⟩=some (.string d):=ak hb4 0;have e1:w1.cell? ⟨pb,1,none⟩=some (.int .i64 fr):=ak hb4 1;have e2:w1.cell? ⟨pb,2,none⟩=some (.slice A n c):=ak hb4 2;have f1:w1.frozen? ⟨pb,1,none⟩=false:=bk hb4 1;have f2:w1.frozen? ⟨pb,2,none⟩=false:=bk hb4 2;haveI:af pb w1:=af.of (ae hb4);obtain⟨A',c',rfl,_⟩:=aL hown';refine hK _ _ ⟨?_,?_⟩
  ·clear hK K;first|assumption|exact⟨e0,e1⟩|(refine⟨?_,?_⟩<;>(go_simp;done))
  clear hK K
  conv=>arg 8;simp only[Act.put,aq,al,ar]
  refine aK (l':=#[bT,bT,bT,bT,bT,bT,bT,bT,bT,bT,bT,bT,bT,bT,bT,bT,bT,bT,bT,bT,bT,bT,bT,bT,bT,bT,bT,bF,bF,bF]) (by kernel_rfl) ?_;refine wpAnyH_take (i:=27) (oi:=⟨UX 35,_,_,_,_,_⟩) (v:=?_) rfl (by kernel_rfl) (by kernel_rfl) (by kernel_rfl) (λ_ _ _ h=>h) (Or.inl ⟨by rfl,?_⟩) ?_ ?_;rotate_left 1
  ·(intro W9 az;have dh:W9.cell? ⟨pb,0,UW⟩=UX (UN d):=az.1;have di:W9.cell? ⟨pb,1,UW⟩=UX (UM US fr):=az.2;clear az;go_simp;try with_reducible rfl)
  ·first|assumption|exact⟨e0,e1⟩|(refine⟨?_,?_⟩<;>(go_simp;done))
  conv=>arg 8;simp only[Act.put,aq,al,ar]
  refine aK (l':=#[bT,bT,bT,bT,bT,bT,bT,bT,bT,bT,bT,bT,bT,bT,bT,bT,bT,bT,bT,bT,bT,bT,bT,bT,bT,bT,bT,bT,bF,bF]) (by kernel_rfl) ?_;refine wpAnyH_take (i:=28) (oi:=⟨UX 36,_,_,_,_,_⟩) (v:=?_) rfl (by kernel_rfl) (by kernel_rfl) (by kernel_rfl) (λ_ _ _ h=>h) (Or.inl ⟨by rfl,?_⟩) ?_ ?_;rotate_left 1
  ·(intro W9 az;have dh:W9.cell? ⟨pb,0,UW⟩=UX (UN d):=az.1;have di:W9.cell? ⟨pb,1,UW⟩=UX (UM US fr):=az.2;clear az;go_simp;try with_reducible rfl)
  ·first|assumption|exact⟨e0,e1⟩|(refine⟨?_,?_⟩<;>(go_simp;done))
  conv=>arg 8;simp only[Act.put,aq,al,ar]
  refine aK (l':=#[bT,bT,bT,bT,bT,bT,bT,bT,bT,bT,bT,bT,bT,bT,bT,bT,bT,bT,bT,bT,bT,bT,bT,bT,bT,bT,bT,bT,bT,bF]) (by kernel_rfl) ?_;refine wpAnyH_ready (rs:=[29]) (by kernel_rfl) (by simp) ?_;refine AllReadyH.cons (o:=⟨UW,_,_,_,_,_⟩) rfl (λK hK=>?_) AllReadyH.nil;go_simp;refine hK _ _ ⟨?_,?_⟩
  ·clear hK K;first|assumption|exact⟨e0,e1⟩|(refine⟨?_,?_⟩<;>(go_simp;done))
  clear hK K
  conv=>arg 8;simp only[Act.put,aq,al,ar]
  refine aK (l':=#[bT,bT,bT,bT,bT,bT,bT,bT,bT,bT,bT,bT,bT,bT,bT,bT,bT,bT,bT,bT,bT,bT,bT,bT,bT,bT,bT,bT,bT,bT]) (by kernel_rfl) ?_;refine wpAnyH_done (by kernel_rfl) ?_ _
  have Ha:PV ((w1.setCell ⟨pb,2,UW⟩ (UO A' (n+2) c')).setCell ⟨pb,1,UW⟩ (UM US b)) B pb d (ps++[(false,[],St.aY d.1.1 fr a),(true,key.1.1,St.aY d.1.1 a b)],b):=by
   refine⟨HB.out,UO A' (n+2) c',heap_setCell_same _ pb 1 _ _ _ (heap_setCell_same _ pb 2 _ _ _ hb4),?_⟩;refine aA (aA ?_ (aU hown' hb4 (by decide))) (aU hown' hb4 (by decide));rw[jt.out,List.length_append,hn];exact hown'
  have hbl:Below B w ((w1.setCell ⟨pb,2,UW⟩ (UO A' (n+2) c')).setCell ⟨pb,1,UW⟩ (UM US b)):=(dn (Below.refl B w) hBw hgr (λg hg=>aG HO.out g hg) HB.out).setCell (p:=⟨pb,1,UW⟩) HB.out _
  have htk:eC mY w ((w1.setCell ⟨pb,2,UW⟩ (UO A' (n+2) c')).setCell ⟨pb,1,UW⟩ (UM US b)):=
   ((mz hgr (jf HO.out _ (by simp[mY]))).trans (jl (p:=⟨pb,2,UW⟩) hb4 (by simp[mY]))).trans (jl (p:=⟨pb,1,UW⟩) (heap_setCell_same _ pb 2 _ _ _ hb4) (by simp[mY]))
  have hmk:mC w ((w1.setCell ⟨pb,2,UW⟩ (UO A' (n+2) c')).setCell ⟨pb,1,UW⟩ (UM US b)):=
   ((By hgr (jf HO.out _ (by simp[mY]))).trans (vR (p:=⟨pb,2,UW⟩) hb4)).trans (vR (p:=⟨pb,1,UW⟩) (heap_setCell_same _ pb 2 _ _ _ hb4))
  have HE:=aa (And.intro Ha (And.intro hbl (And.intro htk hmk)));clear Ha hbl htk hmk hb4 hgr hgrow hown';go_wp2;go_end0;exact⟨rfl,HE.out.1,HE.out.2.1,HE.out.2.2.1,HE.out.2.2.2⟩
 refine AllReadyH.cons (o:=⟨UX 33,_,_,_,_,_⟩) rfl (λK hK=>?_) ?_
 ·go_simp;refine hK _ _ ⟨?_,?_⟩
  ·clear hK K;first|assumption|exact⟨e0,e1⟩|(refine⟨?_,?_⟩<;>(go_simp;done))
  clear hK K
  conv=>arg 8;simp only[Act.put,aq,al,ar]
  refine aK (l':=#[bT,bT,bT,bT,bF,bT,bT,bT,bT,bT,bT,bT,bT,bT,bT,bT,bT,bT,bT,bT,bT,bT,bT,bT,bT,bT,bF,bF,bF,bF]) (by kernel_rfl) ?_;refine wpAnyH_ready (rs:=[4]) (by kernel_rfl) (by simp) ?_;refine AllReadyH.cons (o:=⟨UX 12,_,_,_,_,_⟩) rfl (λK hK=>?_) AllReadyH.nil;go_simp;refine hK _ _ ⟨?_,?_⟩
  ·clear hK K;first|assumption|exact⟨e0,e1⟩|(refine⟨?_,?_⟩<;>(go_simp;done))
  clear hK K
  conv=>arg 8;simp only[Act.put,aq,al,ar]
  refine aK (l':=#[bT,bT,bT,bT,bT,bT,bT,bT,bT,bT,bT,bT,bT,bT,bT,bT,bT,bT,bT,bT,bT,bT,bT,bT,bT,bT,bF,bF,bF,bF]) (by kernel_rfl) ?_;refine wpAnyH_ready (rs:=[26]) (by kernel_rfl) (by simp) ?_;refine AllReadyH.cons (o:=⟨some 34,_,_,_,_,_⟩) rfl (λK hK=>?_) AllReadyH.nil;refine cH rfl (.tmp 12) (.tmp 33) 23 rfl B 64 i0 (.agg #[.bool false,.string ⟨#[]⟩,.string ⟨#[]⟩]) 3 40 Tryz.underlying23 hi hz0 hz1 hz2 rfl (by decide) (.slice A n c) n _ rfl (eK (HO.out.alloc (.cells #[.bool false,.string ⟨#[]⟩,.string s1,.bool true,.string key,.string s2] 64)) (ac.refl _).drew) ⟨w.1.size,0,none⟩ 2 2 [.bool false,.string ⟨#[]⟩,.string s1,.bool true,.string key,.string s2] rfl rfl (zN w _ _ _ _ _ _ 64 _ rfl) (rh _ _ _ _ _ _) (by unfold maxLen;omega) (by omega) (by simp;omega) ?_;intro v' w1 hown' hgrow _;have hgr:=aW (ac.gb (uZ:ac w (w.alloc (.cells #[.bool false,.string ⟨#[]⟩,.string s1,.bool true,.string key,.string s2] 64)).drew) (Value.slice A n c).ownBlock) hgrow (λg e=>Or.inl e);have hb4:w1.1[pb]?=_:=(hgr.block pb (ae HK.out) (λe=>aU HO.out HK.out (by decide) e.symm)).trans HK.out;have e0:w1.cell? ⟨pb,0,none⟩=some (.string d):=ak hb4 0;have e1:w1.cell? ⟨pb,1,none⟩=some (.int .i64 fr):=ak hb4 1;have e2:w1.cell? ⟨pb,2,none⟩=some (.slice A n c):=ak hb4 2;have f1:w1.frozen? ⟨pb,1,none⟩=false:=bk hb4 1;have f2:w1.frozen? ⟨pb,2,none⟩=false:=bk hb4 2;haveI:af pb w1:=af.of (ae hb4);obtain⟨A',c',rfl,_⟩:=aL hown';refine hK _ _ ⟨?_,?_⟩
  ·clear hK K;first|assumption|exact⟨e0,e1⟩|(refine⟨?_,?_⟩<;>(go_simp;done))
  clear hK K
  conv=>arg 8;simp only[Act.put,aq,al,ar]
  refine aK (l':=#[bT,bT,bT,bT,bT,bT,bT,bT,bT,bT,bT,bT,bT,bT,bT,bT,bT,bT,bT,bT,bT,bT,bT,bT,bT,bT,bT,bF,bF,bF]) (by kernel_rfl) ?_;refine wpAnyH_take (i:=27) (oi:=⟨UX 35,_,_,_,_,_⟩) (v:=?_) rfl (by kernel_rfl) (by kernel_rfl) (by kernel_rfl) (λ_ _ _ h=>h) (Or.inl ⟨by rfl,?_⟩) ?_ ?_;rotate_left 1
  ·(intro W9 az;have dh:W9.cell? ⟨pb,0,UW⟩=UX (UN d):=az.1;have di:W9.cell? ⟨pb,1,UW⟩=UX (UM US fr):=az.2;clear az;go_simp;try with_reducible rfl)
  ·first|assumption|exact⟨e0,e1⟩|(refine⟨?_,?_⟩<;>(go_simp;done))
  conv=>arg 8;simp only[Act.put,aq,al,ar]
  refine aK (l':=#[bT,bT,bT,bT,bT,bT,bT,bT,bT,bT,bT,bT,bT,bT,bT,bT,bT,bT,bT,bT,bT,bT,bT,bT,bT,bT,bT,bT,bF,bF]) (by kernel_rfl) ?_;refine wpAnyH_take (i:=28) (oi:=⟨UX 36,_,_,_,_,_⟩) (v:=?_) rfl (by kernel_rfl) (by kernel_rfl) (by kernel_rfl) (λ_ _ _ h=>h) (Or.inl ⟨by rfl,?_⟩) ?_ ?_;rotate_left 1
  ·(intro W9 az;have dh:W9.cell? ⟨pb,0,UW⟩=UX (UN d):=az.1;have di:W9.cell? ⟨pb,1,UW⟩=UX (UM US fr):=az.2;clear az;go_simp;try with_reducible rfl)
  ·first|assumption|exact⟨e0,e1⟩|(refine⟨?_,?_⟩<;>(go_simp;done))
  conv=>arg 8;simp only[Act.put,aq,al,ar]
  refine aK (l':=#[bT,bT,bT,bT,bT,bT,bT,bT,bT,bT,bT,bT,bT,bT,bT,bT,bT,bT,bT,bT,bT,bT,bT,bT,bT,bT,bT,bT,bT,bF]) (by kernel_rfl) ?_;refine wpAnyH_ready (rs:=[29]) (by kernel_rfl) (by simp) ?_;refine AllReadyH.cons (o:=⟨UW,_,_,_,_,_⟩) rfl (λK hK=>?_) AllReadyH.nil;go_simp;refine hK _ _ ⟨?_,?_⟩
  ·clear hK K;first|assumption|exact⟨e0,e1⟩|(refine⟨?_,?_⟩<;>(go_simp;done))
  clear hK K
  conv=>arg 8;simp only[Act.put,aq,al,ar]
  refine aK (l':=#[bT,bT,bT,bT,bT,bT,bT,bT,bT,bT,bT,bT,bT,bT,bT,bT,bT,bT,bT,bT,bT,bT,bT,bT,bT,bT,bT,bT,bT,bT]) (by kernel_rfl) ?_;refine wpAnyH_done (by kernel_rfl) ?_ _
  have Ha:PV ((w1.setCell ⟨pb,2,UW⟩ (UO A' (n+2) c')).setCell ⟨pb,1,UW⟩ (UM US b)) B pb d (ps++[(false,[],St.aY d.1.1 fr a),(true,key.1.1,St.aY d.1.1 a b)],b):=by
   refine⟨HB.out,UO A' (n+2) c',heap_setCell_same _ pb 1 _ _ _ (heap_setCell_same _ pb 2 _ _ _ hb4),?_⟩;refine aA (aA ?_ (aU hown' hb4 (by decide))) (aU hown' hb4 (by decide));rw[jt.out,List.length_append,hn];exact hown'
  have hbl:Below B w ((w1.setCell ⟨pb,2,UW⟩ (UO A' (n+2) c')).setCell ⟨pb,1,UW⟩ (UM US b)):=(dn (Below.refl B w) hBw hgr (λg hg=>aG HO.out g hg) HB.out).setCell (p:=⟨pb,1,UW⟩) HB.out _
  have htk:eC mY w ((w1.setCell ⟨pb,2,UW⟩ (UO A' (n+2) c')).setCell ⟨pb,1,UW⟩ (UM US b)):=
   ((mz hgr (jf HO.out _ (by simp[mY]))).trans (jl (p:=⟨pb,2,UW⟩) hb4 (by simp[mY]))).trans (jl (p:=⟨pb,1,UW⟩) (heap_setCell_same _ pb 2 _ _ _ hb4) (by simp[mY]))
  have hmk:mC w ((w1.setCell ⟨pb,2,UW⟩ (UO A' (n+2) c')).setCell ⟨pb,1,UW⟩ (UM US b)):=
   ((By hgr (jf HO.out _ (by simp[mY]))).trans (vR (p:=⟨pb,2,UW⟩) hb4)).trans (vR (p:=⟨pb,1,UW⟩) (heap_setCell_same _ pb 2 _ _ _ hb4))
  have HE:=aa (And.intro Ha (And.intro hbl (And.intro htk hmk)));clear Ha hbl htk hmk hb4 hgr hgrow hown';go_wp2;go_end0;exact⟨rfl,HE.out.1,HE.out.2.1,HE.out.2.2.1,HE.out.2.2.2⟩
 exact AllReadyH.nil
theorem KU(w:UY)(B pb:Nat)(d key:ByteArray)(s:St.PS)(a b:Nat)(h:PV w B pb d s)(h1:s.2<=a)(h2:a<=b)(h3:b<=d.size)(hd:d.size<=4611686018427387904)(hl:s.1.length<=1000000)(hBw:B<=w.1.size) :
  Calls Tryz.prog 79 #[UQ (UX ⟨pb,0,UW⟩),UM US a,UM US b,UN key] w λe w'=>e=.returned (.tuple #[])/\PV w' B pb d (St.bg d.1.1 s a b key.1.1)/\Below B w w'/\eC mY w w':=
 (uU w B pb d key s a b h h1 h2 h3 hd hl hBw).mono λ_ _ ⟨x1,x2,x3,x4,_⟩=>⟨x1,x2,x3,x4⟩
def bn(w:UY)(A:Option Addr)(f:List St.Pt):Prop:=
 f.length > 0->∃b off,A=UX ⟨b,off,UW⟩/\b<w.1.size/\∀j (h:j<f.length),w.cell? ⟨b,off+j*3,UW⟩=UX (UP f[j].1)/\w.cell? ⟨b,off+j*3+1,UW⟩=UX (UN ⟨f[j].2.1.toArray⟩)/\w.cell? ⟨b,off+j*3+2,UW⟩=UX (UN ⟨f[j].2.2.toArray⟩)
theorem bn.ai{w w':UY}{A:Option Addr}{f:List St.Pt}(h:bn w A f)(u:ac w w'):bn w' A f:=by
 intro h0;obtain⟨b,off,rfl,hb,hc⟩:=h h0;refine⟨b,off,rfl,Nat.lt_of_lt_of_le hb u.size,λj hj=>?_⟩;obtain⟨c0,c1,c2⟩:=hc j hj;exact⟨(u.cell hb).trans c0,(u.cell hb).trans c1,(u.cell hb).trans c2⟩
theorem xR(f:List St.Pt)(j:Nat)(h:j<f.length):(bW f)[j*3]?=UX (UP f[j].1)/\(bW f)[j*3+1]?=UX (UN ⟨f[j].2.1.toArray⟩)/\(bW f)[j*3+2]?=UX (UN ⟨f[j].2.2.toArray⟩):=by
 induction f generalizing j with
 | nil=>simp at h
 | cons x f ih=>
  match j,h with
  | 0,_=>exact⟨rfl,rfl,rfl⟩
  | j+1,h=>
   obtain⟨a,b,c⟩:=ih j (by simpa using h);have e:(j+1)*3=j*3+3:=by omega
   rw[e];exact⟨a,b,c⟩
theorem po{w:UY}{B n c:Nat}{A:Option Addr}{f:List St.Pt}(h:w.ownsRow B 64 3 (UO A n c) n (bW f))(hn:f.length=n):bn w A f:=by
 intro h0;obtain⟨g,rfl,_,hg,hc⟩:=fg h (by omega);refine⟨g,0,rfl,hg,λj hj=>?_⟩;obtain⟨a,b,c⟩:=xR f j hj;rw[Nat.zero_add];exact⟨hc _ _ a,hc _ _ b,hc _ _ c⟩
theorem uA(w:UY)(B pb:Nat)(d:ByteArray)(s:St.PS)(h:PV w B pb d s)(h1:s.2<=d.size)(hd:d.size<=4611686018427387904)(hl:s.1.length<=1000000)(hBw:B<=w.1.size) :
  Calls Tryz.prog 80 #[UQ (UX ⟨pb,0,UW⟩)] w λe w'=>∃A c,e=.returned (UO A (s.1.length+1) c)/\bn w' A (St.cD d.1.1 s)/\s.1.length+1<=c/\c<=9223372036854775807/\Below B w w':=by
 obtain⟨hB,v,hbk,hown⟩:=h;obtain⟨ps,fr⟩:=s;simp only at hbk hown h1 hl;obtain⟨A,c,rfl,_⟩:=aL hown;have g0:w.cell? ⟨pb,0,UW⟩=UX (UN d):=ak hbk 0;have g1:w.cell? ⟨pb,1,UW⟩=UX (UM US fr):=ak hbk 1;have g2:w.cell? ⟨pb,2,UW⟩=UX (UO A ps.length c):=ak hbk 2;haveI:af pb w:=af.of (ae hbk);obtain⟨i0,hi,hz0,hz1,hz2⟩:=info_parts mV;obtain⟨s1,hE1⟩:∃s1,d.extract fr d.size=s1:=⟨_,rfl⟩;have y1:(0:Int)<=fr:=by omega
 have y2:(fr:Int)<=d.size:=by omega
 have HO:=aa hown;have HK:=aa hbk
 have hcl:bW (St.cD d.1.1 (ps,fr))=bW ps++[UP false,UN ⟨#[]⟩,UN s1]:=by
  have h0:(⟨(d.1.1.drop fr).toArray⟩:ByteArray)=s1:=by
   rw[<-hE1,<-tp];unfold St.aY;rw[List.take_of_length_le (by simp)]
  unfold St.cD;rw[nG];simp only[bW,List.flatMap_cons,List.flatMap_nil,List.append_nil,h0]
 have jt:=aa hcl;generalize hn:ps.length=n at *;clear hown hbk hB hcl;go_enter Tryz.func80,Tryz.ntmps80;go_wp2_with fail;go_region_held3 (λw'=>w'.cell? ⟨pb,0,none⟩=some (.string d)/\w'.cell? ⟨pb,1,none⟩=some (.int .i64 fr)/\w'.cell? ⟨pb,2,none⟩=some (.slice A n c)) (first|go_keep|exact⟨e0,e1,e2⟩|(refine⟨?_,?_,?_⟩<;>go_simp)) ((refine cH rfl (.tmp 6) (.tmp 17) 23 rfl B 64 i0 (.agg #[.bool false,.string ⟨#[]⟩,.string ⟨#[]⟩]) 3 40 Tryz.underlying23 hi hz0 hz1 hz2 rfl (by decide) (.slice A n c) n _ rfl (eK (HO.out.alloc (.cells #[.bool false,.string ⟨#[]⟩,.string s1] 64)) (ac.refl _).drew) ⟨w.1.size,0,none⟩ 1 1 [.bool false,.string ⟨#[]⟩,.string s1] rfl rfl (eA w _ _ _ 64 _ rfl) (yJ _ _ _) (by unfold maxLen;omega) (by omega) (by simp;omega) ?_;intro v' w1 hown' hgrow _;have hgr:=aW (ac.gb (uZ:ac w (w.alloc (.cells #[.bool false,.string ⟨#[]⟩,.string s1] 64)).drew) (Value.slice A n c).ownBlock) hgrow (λg e=>Or.inl e);have hb4:w1.1[pb]?=_:=(hgr.block pb (ae HK.out) (λe=>aU HO.out HK.out (by decide) e.symm)).trans HK.out;have e0:w1.cell? ⟨pb,0,none⟩=some (.string d):=ak hb4 0;have e1:w1.cell? ⟨pb,1,none⟩=some (.int .i64 fr):=ak hb4 1;have e2:w1.cell? ⟨pb,2,none⟩=some (.slice A n c):=ak hb4 2;obtain⟨A',c',rfl,hq1,hq2⟩:=aL hown'))
 all_goals
  have hbl:Below B w w1:=(((Below.refl B w).alloc hBw _).drew).grown hgrow (by simp;omega) (λg hg=>aG HO.out g hg);have li:bn w1 A' (St.cD d.1.1 (ps,fr)):=po (n:=n+1) (by rw[jt.out];exact hown') (by simp[St.cD,hn]);have HE:=aa (And.intro li hbl);have mh:=aa hq1;clear hbl li hgrow hown' hq1;go_wp2;go_ret;exact⟨_,_,rfl,HE.out.1,mh.out,by unfold maxLen at hq2;omega,HE.out.2⟩
