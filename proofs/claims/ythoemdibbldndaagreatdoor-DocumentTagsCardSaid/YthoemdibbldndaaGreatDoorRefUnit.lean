/- The contracts of the reference's builder: unit, end. -/
import Derived.Test.YthoemdibbldndaaGreatDoorPart
set_option linter.all false
set_option maxHeartbeats 0
set_option maxRecDepth 20000
open Go.Value renaming int->UM,string->UN,slice->UO,bool->UP
open Go.IntKind renaming i64->US
open Option renaming none->UW,some->UX
namespace Go.Proofs.YthoemdibbldndaaGreatDoor
open Go.RowKit
def RV(w:World)(B pb:Nat)(d:ByteArray)(s:St.PS):Prop:=
 B<=pb/\∃v,w.1[pb]?=UX (Obj.cells #[UN d,v,UM US s.2] 191 (0,0))/\w.ownsRow B 64 3 v s.1.length (bW s.1)
theorem RV.ai{a c:World}{B pb:Nat}{d:ByteArray}{s:St.PS}(h:RV a B pb d s)(u:ac a c):RV c B pb d s:=by
 obtain⟨h0,v,h1,h2⟩:=h;exact⟨h0,v,(u.below.block pb (ae h1)).trans h1,aE u h2⟩
def we:List TypeId:=[191,64]
theorem pt(w:World)(B pb:Nat)(d key:ByteArray)(s:St.PS)(a b:Nat)(h:RV w B pb d s)(h1:s.2<=a)(h2:a<=b)(h3:b<=d.size)(hd:d.size<=4611686018427387904)(hl:s.1.length<=1000000)(hBw:B<=w.1.size) :
  Calls Tryz.prog 138 #[.pointer (UX ⟨pb,0,UW⟩),UN key,UM US a,UM US b] w λe w'=>e=.returned (.tuple #[])/\RV w' B pb d (St.bg d.1.1 s a b key.1.1)/\Below B w w'/\eC we w w':=by
 obtain⟨hB,v,hbk,hown⟩:=h;obtain⟨ps,fr⟩:=s;simp only at hbk hown h1 hl;obtain⟨A,c,rfl,_⟩:=aL hown;have g0:w.cell? ⟨pb,0,UW⟩=UX (UN d):=ak hbk 0;have g1:w.cell? ⟨pb,2,UW⟩=UX (UM US fr):=ak hbk 2;have g2:w.cell? ⟨pb,1,UW⟩=UX (UO A ps.length c):=ak hbk 1;haveI:af pb w:=af.of (ae hbk);obtain⟨i0,hi,hz0,hz1,hz2⟩:=info_parts mV;obtain⟨s1,hE1⟩:∃s1,d.extract fr a=s1:=⟨_,rfl⟩;obtain⟨s2,hE2⟩:∃s2,d.extract a b=s2:=⟨_,rfl⟩;have y1:(0:Int)<=fr:=by omega
 have y2:(fr:Int)<=a:=by omega
 have y3:(a:Int)<=b:=by omega
 have y4:(b:Int)<=d.size:=by omega
 have y5:(a:Int)<=d.size:=by omega
 have HO:=aa hown;have HB:=aa hB;have HK:=aa hbk
 have hcl:bW (ps++[(false,[],St.aY d.1.1 fr a),(true,key.1.1,St.aY d.1.1 a b)])=bW ps++[UP false,UN ⟨#[]⟩,UN s1,UP true,UN key,UN s2]:=by
  rw[nG];simp only[bW,List.flatMap_cons,List.flatMap_nil,List.append_nil,tp,be,hE1,hE2];rfl
 have jt:=aa hcl;generalize hn:ps.length=n at *;clear hown hbk hB hcl;go_enter Tryz.func138,Tryz.ntmps138;go_wp2_with fail;refine wp_region_any (by kernel_rfl) ?_
 try (change wpAny _ _ _ _ _ _ _ (World.drew _))
 refine DX (l':=#[bF,bF,bF,bF,bF,bF,bF,bF,bF,bF,bF,bF,bF,bF,bF,bF,bF,bF,bF,bF,bF,bF,bF,bF,bF,bF,bF,bF,bF,bF]) (by kernel_rfl) ?_;refine wpAny_of_held (S:=λW=>W.cell? ⟨pb,0,UW⟩=UX (UN d)/\W.cell? ⟨pb,2,UW⟩=UX (UM US fr)) _ _ _ _ ?_;refine wpAnyH_take (i:=0) (oi:=⟨UX 8,_,_,_,_,_⟩) (v:=?_) rfl (by kernel_rfl) (by kernel_rfl) (by kernel_rfl) (λ_ _ _ h=>h) (Or.inl ⟨by rfl,?_⟩) ?_ ?_;rotate_left 1
 ·(intro W9 az;have dh:W9.cell? ⟨pb,0,UW⟩=UX (UN d):=az.1;have di:W9.cell? ⟨pb,2,UW⟩=UX (UM US fr):=az.2;clear az;go_simp;try with_reducible rfl)
 ·first|assumption|exact⟨e0,e1⟩|(refine⟨?_,?_⟩<;>(go_simp;done))
 conv=>arg 8;simp only[Act.put,aq,al,ar]
 refine aK (l':=#[bT,bF,bF,bF,bF,bF,bF,bF,bF,bF,bF,bF,bF,bF,bF,bF,bF,bF,bF,bF,bF,bF,bF,bF,bF,bF,bF,bF,bF,bF]) (by kernel_rfl) ?_;refine wpAnyH_take (i:=1) (oi:=⟨UX 9,_,_,_,_,_⟩) (v:=?_) rfl (by kernel_rfl) (by kernel_rfl) (by kernel_rfl) (λ_ _ _ h=>h) (Or.inl ⟨by rfl,?_⟩) ?_ ?_;rotate_left 1
 ·(intro W9 az;have dh:W9.cell? ⟨pb,0,UW⟩=UX (UN d):=az.1;have di:W9.cell? ⟨pb,2,UW⟩=UX (UM US fr):=az.2;clear az;go_simp;try with_reducible rfl)
 ·first|assumption|exact⟨e0,e1⟩|(refine⟨?_,?_⟩<;>(go_simp;done))
 conv=>arg 8;simp only[Act.put,aq,al,ar]
 refine aK (l':=#[bT,bT,bF,bF,bF,bF,bF,bF,bF,bF,bF,bF,bF,bF,bF,bF,bF,bF,bF,bF,bF,bF,bF,bF,bF,bF,bF,bF,bF,bF]) (by kernel_rfl) ?_;refine wpAnyH_take (i:=2) (oi:=⟨UX 10,_,_,_,_,_⟩) (v:=?_) rfl (by kernel_rfl) (by kernel_rfl) (by kernel_rfl) (λ_ _ _ h=>h) (Or.inl ⟨by rfl,?_⟩) ?_ ?_;rotate_left 1
 ·(intro W9 az;have dh:W9.cell? ⟨pb,0,UW⟩=UX (UN d):=az.1;have di:W9.cell? ⟨pb,2,UW⟩=UX (UM US fr):=az.2;clear az;go_simp;try with_reducible rfl)
 ·first|assumption|exact⟨e0,e1⟩|(refine⟨?_,?_⟩<;>(go_simp;done))
 conv=>arg 8;simp only[Act.put,aq,al,ar]
 refine aK (l':=#[bT,bT,bT,bF,bF,bF,bF,bF,bF,bF,bF,bF,bF,bF,bF,bF,bF,bF,bF,bF,bF,bF,bF,bF,bF,bF,bF,bF,bF,bF]) (by kernel_rfl) ?_;refine wpAnyH_take (i:=3) (oi:=⟨UX 11,_,_,_,_,_⟩) (v:=?_) rfl (by kernel_rfl) (by kernel_rfl) (by kernel_rfl) (λ_ _ _ h=>h) (Or.inl ⟨by rfl,?_⟩) ?_ ?_;rotate_left 1
 ·(intro W9 az;have dh:W9.cell? ⟨pb,0,UW⟩=UX (UN d):=az.1;have di:W9.cell? ⟨pb,2,UW⟩=UX (UM US fr):=az.2;clear az;go_simp;try with_reducible rfl)
 ·first|assumption|exact⟨e0,e1⟩|(refine⟨?_,?_⟩<;>(go_simp;done))
 conv=>arg 8;simp only[Act.put,aq,al,ar]
 refine aK (l':=#[bT,bT,bT,bT,bF,bF,bF,bF,bF,bF,bF,bF,bF,bF,bF,bF,bF,bF,bF,bF,bF,bF,bF,bF,bF,bF,bF,bF,bF,bF]) (by kernel_rfl) ?_;refine wpAnyH_take (i:=5) (oi:=⟨UX 13,_,_,_,_,_⟩) (v:=?_) rfl (by kernel_rfl) (by kernel_rfl) (by kernel_rfl) (λ_ _ _ h=>h) (Or.inl ⟨by rfl,?_⟩) ?_ ?_;rotate_left 1
 ·(intro W9 az;have dh:W9.cell? ⟨pb,0,UW⟩=UX (UN d):=az.1;have di:W9.cell? ⟨pb,2,UW⟩=UX (UM US fr):=az.2;clear az;go_simp;try with_reducible rfl)
 ·first|assumption|exact⟨e0,e1⟩|(refine⟨?_,?_⟩<;>(go_simp;done))
 conv=>arg 8;simp only[Act.put,aq,al,ar]
 refine aK (l':=#[bT,bT,bT,bT,bF,bT,bF,bF,bF,bF,bF,bF,bF,bF,bF,bF,bF,bF,bF,bF,bF,bF,bF,bF,bF,bF,bF,bF,bF,bF]) (by kernel_rfl) ?_;refine wpAnyH_take (i:=6) (oi:=⟨UX 14,_,_,_,_,_⟩) (v:=?_) rfl (by kernel_rfl) (by kernel_rfl) (by kernel_rfl) (λ_ _ _ h=>h) (Or.inl ⟨by rfl,?_⟩) ?_ ?_;rotate_left 1
 ·(intro W9 az;have dh:W9.cell? ⟨pb,0,UW⟩=UX (UN d):=az.1;have di:W9.cell? ⟨pb,2,UW⟩=UX (UM US fr):=az.2;clear az;go_simp;try with_reducible rfl)
 ·first|assumption|exact⟨e0,e1⟩|(refine⟨?_,?_⟩<;>(go_simp;done))
 conv=>arg 8;simp only[Act.put,aq,al,ar]
 refine aK (l':=#[bT,bT,bT,bT,bF,bT,bT,bF,bF,bF,bF,bF,bF,bF,bF,bF,bF,bF,bF,bF,bF,bF,bF,bF,bF,bF,bF,bF,bF,bF]) (by kernel_rfl) ?_;refine wpAnyH_take (i:=7) (oi:=⟨UX 15,_,_,_,_,_⟩) (v:=?_) rfl (by kernel_rfl) (by kernel_rfl) (by kernel_rfl) (λ_ _ _ h=>h) (Or.inl ⟨by rfl,?_⟩) ?_ ?_;rotate_left 1
 ·(intro W9 az;have dh:W9.cell? ⟨pb,0,UW⟩=UX (UN d):=az.1;have di:W9.cell? ⟨pb,2,UW⟩=UX (UM US fr):=az.2;clear az;go_simp;try with_reducible rfl)
 ·first|assumption|exact⟨e0,e1⟩|(refine⟨?_,?_⟩<;>(go_simp;done))
 conv=>arg 8;simp only[Act.put,aq,al,ar]
 refine aK (l':=#[bT,bT,bT,bT,bF,bT,bT,bT,bF,bF,bF,bF,bF,bF,bF,bF,bF,bF,bF,bF,bF,bF,bF,bF,bF,bF,bF,bF,bF,bF]) (by kernel_rfl) ?_;refine wpAnyH_take (i:=8) (oi:=⟨UX 16,_,_,_,_,_⟩) (v:=?_) rfl (by kernel_rfl) (by kernel_rfl) (by kernel_rfl) (λ_ _ _ h=>h) (Or.inl ⟨by rfl,?_⟩) ?_ ?_;rotate_left 1
 ·(intro W9 az;have dh:W9.cell? ⟨pb,0,UW⟩=UX (UN d):=az.1;have di:W9.cell? ⟨pb,2,UW⟩=UX (UM US fr):=az.2;clear az;go_simp;try with_reducible rfl)
 ·first|assumption|exact⟨e0,e1⟩|(refine⟨?_,?_⟩<;>(go_simp;done))
 conv=>arg 8;simp only[Act.put,aq,al,ar]
 refine aK (l':=#[bT,bT,bT,bT,bF,bT,bT,bT,bT,bF,bF,bF,bF,bF,bF,bF,bF,bF,bF,bF,bF,bF,bF,bF,bF,bF,bF,bF,bF,bF]) (by kernel_rfl) ?_;refine wpAnyH_take (i:=9) (oi:=⟨UX 17,_,_,_,_,_⟩) (v:=?_) rfl (by kernel_rfl) (by kernel_rfl) (by kernel_rfl) (λ_ _ _ h=>h) (Or.inl ⟨by rfl,?_⟩) ?_ ?_;rotate_left 1
 ·(intro W9 az;have dh:W9.cell? ⟨pb,0,UW⟩=UX (UN d):=az.1;have di:W9.cell? ⟨pb,2,UW⟩=UX (UM US fr):=az.2;clear az;go_simp;try with_reducible rfl)
 ·first|assumption|exact⟨e0,e1⟩|(refine⟨?_,?_⟩<;>(go_simp;done))
 conv=>arg 8;simp only[Act.put,aq,al,ar]
 refine aK (l':=#[bT,bT,bT,bT,bF,bT,bT,bT,bT,bT,bF,bF,bF,bF,bF,bF,bF,bF,bF,bF,bF,bF,bF,bF,bF,bF,bF,bF,bF,bF]) (by kernel_rfl) ?_;refine wpAnyH_take (i:=10) (oi:=⟨UX 18,_,_,_,_,_⟩) (v:=?_) rfl (by kernel_rfl) (by kernel_rfl) (by kernel_rfl) (λ_ _ _ h=>h) (Or.inl ⟨by rfl,?_⟩) ?_ ?_;rotate_left 1
 ·(intro W9 az;have dh:W9.cell? ⟨pb,0,UW⟩=UX (UN d):=az.1;have di:W9.cell? ⟨pb,2,UW⟩=UX (UM US fr):=az.2;clear az;go_simp;try with_reducible rfl)
 ·first|assumption|exact⟨e0,e1⟩|(refine⟨?_,?_⟩<;>(go_simp;done))
 conv=>arg 8;simp only[Act.put,aq,al,ar]
 refine aK (l':=#[bT,bT,bT,bT,bF,bT,bT,bT,bT,bT,bT,bF,bF,bF,bF,bF,bF,bF,bF,bF,bF,bF,bF,bF,bF,bF,bF,bF,bF,bF]) (by kernel_rfl) ?_;refine wpAnyH_take (i:=11) (oi:=⟨UX 19,_,_,_,_,_⟩) (v:=?_) rfl (by kernel_rfl) (by kernel_rfl) (by kernel_rfl) (λ_ _ _ h=>h) (Or.inl ⟨by rfl,?_⟩) ?_ ?_;rotate_left 1
 ·(intro W9 az;have dh:W9.cell? ⟨pb,0,UW⟩=UX (UN d):=az.1;have di:W9.cell? ⟨pb,2,UW⟩=UX (UM US fr):=az.2;clear az;go_simp;try with_reducible rfl)
 ·first|assumption|exact⟨e0,e1⟩|(refine⟨?_,?_⟩<;>(go_simp;done))
 conv=>arg 8;simp only[Act.put,aq,al,ar]
 refine aK (l':=#[bT,bT,bT,bT,bF,bT,bT,bT,bT,bT,bT,bT,bF,bF,bF,bF,bF,bF,bF,bF,bF,bF,bF,bF,bF,bF,bF,bF,bF,bF]) (by kernel_rfl) ?_;refine wpAnyH_take (i:=12) (oi:=⟨UX 20,_,_,_,_,_⟩) (v:=?_) rfl (by kernel_rfl) (by kernel_rfl) (by kernel_rfl) (λ_ _ _ h=>h) (Or.inl ⟨by rfl,?_⟩) ?_ ?_;rotate_left 1
 ·(intro W9 az;have dh:W9.cell? ⟨pb,0,UW⟩=UX (UN d):=az.1;have di:W9.cell? ⟨pb,2,UW⟩=UX (UM US fr):=az.2;clear az;go_simp;try with_reducible rfl)
 ·first|assumption|exact⟨e0,e1⟩|(refine⟨?_,?_⟩<;>(go_simp;done))
 conv=>arg 8;simp only[Act.put,aq,al,ar]
 refine aK (l':=#[bT,bT,bT,bT,bF,bT,bT,bT,bT,bT,bT,bT,bT,bF,bF,bF,bF,bF,bF,bF,bF,bF,bF,bF,bF,bF,bF,bF,bF,bF]) (by kernel_rfl) ?_;refine wpAnyH_take (i:=13) (oi:=⟨UX 21,_,_,_,_,_⟩) (v:=?_) rfl (by kernel_rfl) (by kernel_rfl) (by kernel_rfl) (λ_ _ _ h=>h) (Or.inl ⟨by rfl,?_⟩) ?_ ?_;rotate_left 1
 ·(intro W9 az;have dh:W9.cell? ⟨pb,0,UW⟩=UX (UN d):=az.1;have di:W9.cell? ⟨pb,2,UW⟩=UX (UM US fr):=az.2;clear az;go_simp;try with_reducible rfl)
 ·first|assumption|exact⟨e0,e1⟩|(refine⟨?_,?_⟩<;>(go_simp;done))
 conv=>arg 8;simp only[Act.put,aq,al,ar]
 refine aK (l':=#[bT,bT,bT,bT,bF,bT,bT,bT,bT,bT,bT,bT,bT,bT,bF,bF,bF,bF,bF,bF,bF,bF,bF,bF,bF,bF,bF,bF,bF,bF]) (by kernel_rfl) ?_;refine wpAnyH_take (i:=14) (oi:=⟨UX 22,_,_,_,_,_⟩) (v:=?_) rfl (by kernel_rfl) (by kernel_rfl) (by kernel_rfl) (λ_ _ _ h=>h) (Or.inl ⟨by rfl,?_⟩) ?_ ?_;rotate_left 1
 ·(intro W9 az;have dh:W9.cell? ⟨pb,0,UW⟩=UX (UN d):=az.1;have di:W9.cell? ⟨pb,2,UW⟩=UX (UM US fr):=az.2;clear az;go_simp;try with_reducible rfl)
 ·first|assumption|exact⟨e0,e1⟩|(refine⟨?_,?_⟩<;>(go_simp;done))
 conv=>arg 8;simp only[Act.put,aq,al,ar]
 refine aK (l':=#[bT,bT,bT,bT,bF,bT,bT,bT,bT,bT,bT,bT,bT,bT,bT,bF,bF,bF,bF,bF,bF,bF,bF,bF,bF,bF,bF,bF,bF,bF]) (by kernel_rfl) ?_;refine wpAnyH_take (i:=15) (oi:=⟨UX 23,_,_,_,_,_⟩) (v:=?_) rfl (by kernel_rfl) (by kernel_rfl) (by kernel_rfl) (λ_ _ _ h=>h) (Or.inl ⟨by rfl,?_⟩) ?_ ?_;rotate_left 1
 ·(intro W9 az;have dh:W9.cell? ⟨pb,0,UW⟩=UX (UN d):=az.1;have di:W9.cell? ⟨pb,2,UW⟩=UX (UM US fr):=az.2;clear az;go_simp;try with_reducible rfl)
 ·first|assumption|exact⟨e0,e1⟩|(refine⟨?_,?_⟩<;>(go_simp;done))
 conv=>arg 8;simp only[Act.put,aq,al,ar]
 refine aK (l':=#[bT,bT,bT,bT,bF,bT,bT,bT,bT,bT,bT,bT,bT,bT,bT,bT,bF,bF,bF,bF,bF,bF,bF,bF,bF,bF,bF,bF,bF,bF]) (by kernel_rfl) ?_;refine wpAnyH_take (i:=16) (oi:=⟨UX 24,_,_,_,_,_⟩) (v:=?_) rfl (by kernel_rfl) (by kernel_rfl) (by kernel_rfl) (λ_ _ _ h=>h) (Or.inl ⟨by rfl,?_⟩) ?_ ?_;rotate_left 1
 ·(intro W9 az;have dh:W9.cell? ⟨pb,0,UW⟩=UX (UN d):=az.1;have di:W9.cell? ⟨pb,2,UW⟩=UX (UM US fr):=az.2;clear az;go_simp;try with_reducible rfl)
 ·first|assumption|exact⟨e0,e1⟩|(refine⟨?_,?_⟩<;>(go_simp;done))
 conv=>arg 8;simp only[Act.put,aq,al,ar]
 refine aK (l':=#[bT,bT,bT,bT,bF,bT,bT,bT,bT,bT,bT,bT,bT,bT,bT,bT,bT,bF,bF,bF,bF,bF,bF,bF,bF,bF,bF,bF,bF,bF]) (by kernel_rfl) ?_;refine wpAnyH_take (i:=17) (oi:=⟨UX 25,_,_,_,_,_⟩) (v:=?_) rfl (by kernel_rfl) (by kernel_rfl) (by kernel_rfl) (λ_ _ _ h=>h) (Or.inl ⟨by rfl,?_⟩) ?_ ?_;rotate_left 1
 ·(intro W9 az;have dh:W9.cell? ⟨pb,0,UW⟩=UX (UN d):=az.1;have di:W9.cell? ⟨pb,2,UW⟩=UX (UM US fr):=az.2;clear az;go_simp;try with_reducible rfl)
 ·first|assumption|exact⟨e0,e1⟩|(refine⟨?_,?_⟩<;>(go_simp;done))
 conv=>arg 8;simp only[Act.put,aq,al,ar]
 refine aK (l':=#[bT,bT,bT,bT,bF,bT,bT,bT,bT,bT,bT,bT,bT,bT,bT,bT,bT,bT,bF,bF,bF,bF,bF,bF,bF,bF,bF,bF,bF,bF]) (by kernel_rfl) ?_;refine wpAnyH_take (i:=18) (oi:=⟨UX 26,_,_,_,_,_⟩) (v:=?_) rfl (by kernel_rfl) (by kernel_rfl) (by kernel_rfl) (λ_ _ _ h=>h) (Or.inl ⟨by rfl,?_⟩) ?_ ?_;rotate_left 1
 ·(intro W9 az;have dh:W9.cell? ⟨pb,0,UW⟩=UX (UN d):=az.1;have di:W9.cell? ⟨pb,2,UW⟩=UX (UM US fr):=az.2;clear az;go_simp;try with_reducible rfl)
 ·first|assumption|exact⟨e0,e1⟩|(refine⟨?_,?_⟩<;>(go_simp;done))
 conv=>arg 8;simp only[Act.put,aq,al,ar]
 refine aK (l':=#[bT,bT,bT,bT,bF,bT,bT,bT,bT,bT,bT,bT,bT,bT,bT,bT,bT,bT,bT,bF,bF,bF,bF,bF,bF,bF,bF,bF,bF,bF]) (by kernel_rfl) ?_;refine wpAnyH_take (i:=19) (oi:=⟨UX 27,_,_,_,_,_⟩) (v:=?_) rfl (by kernel_rfl) (by kernel_rfl) (by kernel_rfl) (λ_ _ _ h=>h) (Or.inl ⟨by rfl,?_⟩) ?_ ?_;rotate_left 1
 ·(intro W9 az;have dh:W9.cell? ⟨pb,0,UW⟩=UX (UN d):=az.1;have di:W9.cell? ⟨pb,2,UW⟩=UX (UM US fr):=az.2;clear az;go_simp;try with_reducible rfl)
 ·first|assumption|exact⟨e0,e1⟩|(refine⟨?_,?_⟩<;>(go_simp;done))
 conv=>arg 8;simp only[Act.put,aq,al,ar]
 refine aK (l':=#[bT,bT,bT,bT,bF,bT,bT,bT,bT,bT,bT,bT,bT,bT,bT,bT,bT,bT,bT,bT,bF,bF,bF,bF,bF,bF,bF,bF,bF,bF]) (by kernel_rfl) ?_;refine wpAnyH_take (i:=20) (oi:=⟨UX 28,_,_,_,_,_⟩) (v:=?_) rfl (by kernel_rfl) (by kernel_rfl) (by kernel_rfl) (λ_ _ _ h=>h) (Or.inl ⟨by rfl,?_⟩) ?_ ?_;rotate_left 1
 ·(intro W9 az;have dh:W9.cell? ⟨pb,0,UW⟩=UX (UN d):=az.1;have di:W9.cell? ⟨pb,2,UW⟩=UX (UM US fr):=az.2;clear az;go_simp;try with_reducible rfl)
 ·first|assumption|exact⟨e0,e1⟩|(refine⟨?_,?_⟩<;>(go_simp;done))
 conv=>arg 8;simp only[Act.put,aq,al,ar]
 refine aK (l':=#[bT,bT,bT,bT,bF,bT,bT,bT,bT,bT,bT,bT,bT,bT,bT,bT,bT,bT,bT,bT,bT,bF,bF,bF,bF,bF,bF,bF,bF,bF]) (by kernel_rfl) ?_;refine wpAnyH_take (i:=21) (oi:=⟨UX 29,_,_,_,_,_⟩) (v:=?_) rfl (by kernel_rfl) (by kernel_rfl) (by kernel_rfl) (λ_ _ _ h=>h) (Or.inl ⟨by rfl,?_⟩) ?_ ?_;rotate_left 1
 ·(intro W9 az;have dh:W9.cell? ⟨pb,0,UW⟩=UX (UN d):=az.1;have di:W9.cell? ⟨pb,2,UW⟩=UX (UM US fr):=az.2;clear az;go_simp;try with_reducible rfl)
 ·first|assumption|exact⟨e0,e1⟩|(refine⟨?_,?_⟩<;>(go_simp;done))
 conv=>arg 8;simp only[Act.put,aq,al,ar]
 refine aK (l':=#[bT,bT,bT,bT,bF,bT,bT,bT,bT,bT,bT,bT,bT,bT,bT,bT,bT,bT,bT,bT,bT,bT,bF,bF,bF,bF,bF,bF,bF,bF]) (by kernel_rfl) ?_;refine wpAnyH_take (i:=22) (oi:=⟨UX 30,_,_,_,_,_⟩) (v:=?_) rfl (by kernel_rfl) (by kernel_rfl) (by kernel_rfl) (λ_ _ _ h=>h) (Or.inl ⟨by rfl,?_⟩) ?_ ?_;rotate_left 1
 ·(intro W9 az;have dh:W9.cell? ⟨pb,0,UW⟩=UX (UN d):=az.1;have di:W9.cell? ⟨pb,2,UW⟩=UX (UM US fr):=az.2;clear az;go_simp;try with_reducible rfl)
 ·first|assumption|exact⟨e0,e1⟩|(refine⟨?_,?_⟩<;>(go_simp;done))
 conv=>arg 8;simp only[Act.put,aq,al,ar]
 refine aK (l':=#[bT,bT,bT,bT,bF,bT,bT,bT,bT,bT,bT,bT,bT,bT,bT,bT,bT,bT,bT,bT,bT,bT,bT,bF,bF,bF,bF,bF,bF,bF]) (by kernel_rfl) ?_;refine wpAnyH_take (i:=23) (oi:=⟨UX 31,_,_,_,_,_⟩) (v:=?_) rfl (by kernel_rfl) (by kernel_rfl) (by kernel_rfl) (λ_ _ _ h=>h) (Or.inl ⟨by rfl,?_⟩) ?_ ?_;rotate_left 1
 ·(intro W9 az;have dh:W9.cell? ⟨pb,0,UW⟩=UX (UN d):=az.1;have di:W9.cell? ⟨pb,2,UW⟩=UX (UM US fr):=az.2;clear az;go_simp;try with_reducible rfl)
 ·first|assumption|exact⟨e0,e1⟩|(refine⟨?_,?_⟩<;>(go_simp;done))
 conv=>arg 8;simp only[Act.put,aq,al,ar]
 refine aK (l':=#[bT,bT,bT,bT,bF,bT,bT,bT,bT,bT,bT,bT,bT,bT,bT,bT,bT,bT,bT,bT,bT,bT,bT,bT,bF,bF,bF,bF,bF,bF]) (by kernel_rfl) ?_;refine wpAnyH_take (i:=24) (oi:=⟨UX 32,_,_,_,_,_⟩) (v:=?_) rfl (by kernel_rfl) (by kernel_rfl) (by kernel_rfl) (λ_ _ _ h=>h) (Or.inl ⟨by rfl,?_⟩) ?_ ?_;rotate_left 1
 ·(intro W9 az;have dh:W9.cell? ⟨pb,0,UW⟩=UX (UN d):=az.1;have di:W9.cell? ⟨pb,2,UW⟩=UX (UM US fr):=az.2;clear az;go_simp;try with_reducible rfl)
 ·first|assumption|exact⟨e0,e1⟩|(refine⟨?_,?_⟩<;>(go_simp;done))
 conv=>arg 8;simp only[Act.put,aq,al,ar]
 refine aK (l':=#[bT,bT,bT,bT,bF,bT,bT,bT,bT,bT,bT,bT,bT,bT,bT,bT,bT,bT,bT,bT,bT,bT,bT,bT,bT,bF,bF,bF,bF,bF]) (by kernel_rfl) ?_;refine wpAnyH_ready (rs:=[4,25]) (by kernel_rfl) (by simp) ?_;refine AllReadyH.cons (o:=⟨UX 12,_,_,_,_,_⟩) rfl (λK hK=>?_) ?_
 ·go_simp;refine hK _ _ ⟨?_,?_⟩
  ·clear hK K;first|assumption|exact⟨e0,e1⟩|(refine⟨?_,?_⟩<;>(go_simp;done))
  clear hK K
  conv=>arg 8;simp only[Act.put,aq,al,ar]
  refine aK (l':=#[bT,bT,bT,bT,bT,bT,bT,bT,bT,bT,bT,bT,bT,bT,bT,bT,bT,bT,bT,bT,bT,bT,bT,bT,bT,bF,bF,bF,bF,bF]) (by kernel_rfl) ?_;refine wpAnyH_ready (rs:=[25]) (by kernel_rfl) (by simp) ?_;refine AllReadyH.cons (o:=⟨UX 33,_,_,_,_,_⟩) rfl (λK hK=>?_) AllReadyH.nil;go_simp;refine hK _ _ ⟨?_,?_⟩
  ·clear hK K;first|assumption|exact⟨e0,e1⟩|(refine⟨?_,?_⟩<;>(go_simp;done))
  clear hK K
  conv=>arg 8;simp only[Act.put,aq,al,ar]
  refine aK (l':=#[bT,bT,bT,bT,bT,bT,bT,bT,bT,bT,bT,bT,bT,bT,bT,bT,bT,bT,bT,bT,bT,bT,bT,bT,bT,bT,bF,bF,bF,bF]) (by kernel_rfl) ?_;refine wpAnyH_ready (rs:=[26]) (by kernel_rfl) (by simp) ?_;refine AllReadyH.cons (o:=⟨some 34,_,_,_,_,_⟩) rfl (λK hK=>?_) AllReadyH.nil;refine cH rfl (.tmp 12) (.tmp 33) 23 rfl B 64 i0 (.agg #[.bool false,.string ⟨#[]⟩,.string ⟨#[]⟩]) 3 40 Tryz.underlying23 hi hz0 hz1 hz2 rfl (by decide) (.slice A n c) n _ rfl (eK (HO.out.alloc (.cells #[.bool false,.string ⟨#[]⟩,.string s1,.bool true,.string key,.string s2] 64)) (ac.refl _).drew) ⟨w.1.size,0,none⟩ 2 2 [.bool false,.string ⟨#[]⟩,.string s1,.bool true,.string key,.string s2] rfl rfl (zN w _ _ _ _ _ _ 64 _ rfl) (rh _ _ _ _ _ _) (by unfold maxLen;omega) (by omega) (by simp;omega) ?_;intro v' w1 hown' hgrow _;have hgr:=aW (ac.gb (uZ:ac w (w.alloc (.cells #[.bool false,.string ⟨#[]⟩,.string s1,.bool true,.string key,.string s2] 64)).drew) (Value.slice A n c).ownBlock) hgrow (λg e=>Or.inl e);have hb4:w1.1[pb]?=_:=(hgr.block pb (ae HK.out) (λe=>aU HO.out HK.out (by decide) e.symm)).trans HK.out;have e0:w1.cell? ⟨pb,0,none⟩=some (.string d):=ak hb4 0;have e1:w1.cell? ⟨pb,2,none⟩=some (.int .i64 fr):=ak hb4 2;have e2:w1.cell? ⟨pb,1,none⟩=some (.slice A n c):=ak hb4 1;have f1:w1.frozen? ⟨pb,2,none⟩=false:=bk hb4 2;have f2:w1.frozen? ⟨pb,1,none⟩=false:=bk hb4 1;haveI:af pb w1:=af.of (ae hb4);obtain⟨A',c',rfl,_⟩:=aL hown';refine hK _ _ ⟨?_,?_⟩
  ·clear hK K;first|assumption|exact⟨e0,e1⟩|(refine⟨?_,?_⟩<;>(go_simp;done))
  clear hK K
  conv=>arg 8;simp only[Act.put,aq,al,ar]
  refine aK (l':=#[bT,bT,bT,bT,bT,bT,bT,bT,bT,bT,bT,bT,bT,bT,bT,bT,bT,bT,bT,bT,bT,bT,bT,bT,bT,bT,bT,bF,bF,bF]) (by kernel_rfl) ?_;refine wpAnyH_take (i:=27) (oi:=⟨UX 35,_,_,_,_,_⟩) (v:=?_) rfl (by kernel_rfl) (by kernel_rfl) (by kernel_rfl) (λ_ _ _ h=>h) (Or.inl ⟨by rfl,?_⟩) ?_ ?_;rotate_left 1
  ·(intro W9 az;have dh:W9.cell? ⟨pb,0,UW⟩=UX (UN d):=az.1;have di:W9.cell? ⟨pb,2,UW⟩=UX (UM US fr):=az.2;clear az;go_simp;try with_reducible rfl)
  ·first|assumption|exact⟨e0,e1⟩|(refine⟨?_,?_⟩<;>(go_simp;done))
  conv=>arg 8;simp only[Act.put,aq,al,ar]
  refine aK (l':=#[bT,bT,bT,bT,bT,bT,bT,bT,bT,bT,bT,bT,bT,bT,bT,bT,bT,bT,bT,bT,bT,bT,bT,bT,bT,bT,bT,bT,bF,bF]) (by kernel_rfl) ?_;refine wpAnyH_take (i:=28) (oi:=⟨UX 36,_,_,_,_,_⟩) (v:=?_) rfl (by kernel_rfl) (by kernel_rfl) (by kernel_rfl) (λ_ _ _ h=>h) (Or.inl ⟨by rfl,?_⟩) ?_ ?_;rotate_left 1
  ·(intro W9 az;have dh:W9.cell? ⟨pb,0,UW⟩=UX (UN d):=az.1;have di:W9.cell? ⟨pb,2,UW⟩=UX (UM US fr):=az.2;clear az;go_simp;try with_reducible rfl)
  ·first|assumption|exact⟨e0,e1⟩|(refine⟨?_,?_⟩<;>(go_simp;done))
  conv=>arg 8;simp only[Act.put,aq,al,ar]
  refine aK (l':=#[bT,bT,bT,bT,bT,bT,bT,bT,bT,bT,bT,bT,bT,bT,bT,bT,bT,bT,bT,bT,bT,bT,bT,bT,bT,bT,bT,bT,bT,bF]) (by kernel_rfl) ?_;refine wpAnyH_ready (rs:=[29]) (by kernel_rfl) (by simp) ?_;refine AllReadyH.cons (o:=⟨UW,_,_,_,_,_⟩) rfl (λK hK=>?_) AllReadyH.nil;go_simp;refine hK _ _ ⟨?_,?_⟩
  ·clear hK K;first|assumption|exact⟨e0,e1⟩|(refine⟨?_,?_⟩<;>(go_simp;done))
  clear hK K
  conv=>arg 8;simp only[Act.put,aq,al,ar]
  refine aK (l':=#[bT,bT,bT,bT,bT,bT,bT,bT,bT,bT,bT,bT,bT,bT,bT,bT,bT,bT,bT,bT,bT,bT,bT,bT,bT,bT,bT,bT,bT,bT]) (by kernel_rfl) ?_;refine wpAnyH_done (by kernel_rfl) ?_ _
  have lE:RV ((w1.setCell ⟨pb,1,UW⟩ (UO A' (n+2) c')).setCell ⟨pb,2,UW⟩ (UM US b)) B pb d (ps++[(false,[],St.aY d.1.1 fr a),(true,key.1.1,St.aY d.1.1 a b)],b):=by
   refine⟨HB.out,UO A' (n+2) c',heap_setCell_same _ pb 2 _ _ _ (heap_setCell_same _ pb 1 _ _ _ hb4),?_⟩;refine aA (aA ?_ (aU hown' hb4 (by decide))) (aU hown' hb4 (by decide));rw[jt.out,List.length_append,hn];exact hown'
  have hbl:Below B w ((w1.setCell ⟨pb,1,UW⟩ (UO A' (n+2) c')).setCell ⟨pb,2,UW⟩ (UM US b)):=(dn (Below.refl B w) hBw hgr (λg hg=>aG HO.out g hg) HB.out).setCell (p:=⟨pb,2,UW⟩) HB.out _
  have htk:eC we w ((w1.setCell ⟨pb,1,UW⟩ (UO A' (n+2) c')).setCell ⟨pb,2,UW⟩ (UM US b)):=
   ((mz hgr (jf HO.out _ (by simp[we]))).trans (jl (p:=⟨pb,1,UW⟩) hb4 (by simp[we]))).trans (jl (p:=⟨pb,2,UW⟩) (heap_setCell_same _ pb 1 _ _ _ hb4) (by simp[we]))
  have HE:=aa (And.intro lE (And.intro hbl htk));clear lE hbl htk hb4 hgr hgrow hown';go_wp2;go_end0;exact⟨rfl,HE.out.1,HE.out.2.1,HE.out.2.2⟩
 refine AllReadyH.cons (o:=⟨UX 33,_,_,_,_,_⟩) rfl (λK hK=>?_) ?_
 ·go_simp;refine hK _ _ ⟨?_,?_⟩
  ·clear hK K;first|assumption|exact⟨e0,e1⟩|(refine⟨?_,?_⟩<;>(go_simp;done))
  clear hK K
  conv=>arg 8;simp only[Act.put,aq,al,ar]
  refine aK (l':=#[bT,bT,bT,bT,bF,bT,bT,bT,bT,bT,bT,bT,bT,bT,bT,bT,bT,bT,bT,bT,bT,bT,bT,bT,bT,bT,bF,bF,bF,bF]) (by kernel_rfl) ?_;refine wpAnyH_ready (rs:=[4]) (by kernel_rfl) (by simp) ?_;refine AllReadyH.cons (o:=⟨UX 12,_,_,_,_,_⟩) rfl (λK hK=>?_) AllReadyH.nil;go_simp;refine hK _ _ ⟨?_,?_⟩
  ·clear hK K;first|assumption|exact⟨e0,e1⟩|(refine⟨?_,?_⟩<;>(go_simp;done))
  clear hK K
  conv=>arg 8;simp only[Act.put,aq,al,ar]
  refine aK (l':=#[bT,bT,bT,bT,bT,bT,bT,bT,bT,bT,bT,bT,bT,bT,bT,bT,bT,bT,bT,bT,bT,bT,bT,bT,bT,bT,bF,bF,bF,bF]) (by kernel_rfl) ?_;refine wpAnyH_ready (rs:=[26]) (by kernel_rfl) (by simp) ?_;refine AllReadyH.cons (o:=⟨some 34,_,_,_,_,_⟩) rfl (λK hK=>?_) AllReadyH.nil;refine cH rfl (.tmp 12) (.tmp 33) 23 rfl B 64 i0 (.agg #[.bool false,.string ⟨#[]⟩,.string ⟨#[]⟩]) 3 40 Tryz.underlying23 hi hz0 hz1 hz2 rfl (by decide) (.slice A n c) n _ rfl (eK (HO.out.alloc (.cells #[.bool false,.string ⟨#[]⟩,.string s1,.bool true,.string key,.string s2] 64)) (ac.refl _).drew) ⟨w.1.size,0,none⟩ 2 2 [.bool false,.string ⟨#[]⟩,.string s1,.bool true,.string key,.string s2] rfl rfl (zN w _ _ _ _ _ _ 64 _ rfl) (rh _ _ _ _ _ _) (by unfold maxLen;omega) (by omega) (by simp;omega) ?_;intro v' w1 hown' hgrow _;have hgr:=aW (ac.gb (uZ:ac w (w.alloc (.cells #[.bool false,.string ⟨#[]⟩,.string s1,.bool true,.string key,.string s2] 64)).drew) (Value.slice A n c).ownBlock) hgrow (λg e=>Or.inl e);have hb4:w1.1[pb]?=_:=(hgr.block pb (ae HK.out) (λe=>aU HO.out HK.out (by decide) e.symm)).trans HK.out;have e0:w1.cell? ⟨pb,0,none⟩=some (.string d):=ak hb4 0;have e1:w1.cell? ⟨pb,2,none⟩=some (.int .i64 fr):=ak hb4 2;have e2:w1.cell? ⟨pb,1,none⟩=some (.slice A n c):=ak hb4 1;have f1:w1.frozen? ⟨pb,2,none⟩=false:=bk hb4 2;have f2:w1.frozen? ⟨pb,1,none⟩=false:=bk hb4 1;haveI:af pb w1:=af.of (ae hb4);obtain⟨A',c',rfl,_⟩:=aL hown';refine hK _ _ ⟨?_,?_⟩
  ·clear hK K;first|assumption|exact⟨e0,e1⟩|(refine⟨?_,?_⟩<;>(go_simp;done))
  clear hK K
  conv=>arg 8;simp only[Act.put,aq,al,ar]
  refine aK (l':=#[bT,bT,bT,bT,bT,bT,bT,bT,bT,bT,bT,bT,bT,bT,bT,bT,bT,bT,bT,bT,bT,bT,bT,bT,bT,bT,bT,bF,bF,bF]) (by kernel_rfl) ?_;refine wpAnyH_take (i:=27) (oi:=⟨UX 35,_,_,_,_,_⟩) (v:=?_) rfl (by kernel_rfl) (by kernel_rfl) (by kernel_rfl) (λ_ _ _ h=>h) (Or.inl ⟨by rfl,?_⟩) ?_ ?_;rotate_left 1
  ·(intro W9 az;have dh:W9.cell? ⟨pb,0,UW⟩=UX (UN d):=az.1;have di:W9.cell? ⟨pb,2,UW⟩=UX (UM US fr):=az.2;clear az;go_simp;try with_reducible rfl)
  ·first|assumption|exact⟨e0,e1⟩|(refine⟨?_,?_⟩<;>(go_simp;done))
  conv=>arg 8;simp only[Act.put,aq,al,ar]
  refine aK (l':=#[bT,bT,bT,bT,bT,bT,bT,bT,bT,bT,bT,bT,bT,bT,bT,bT,bT,bT,bT,bT,bT,bT,bT,bT,bT,bT,bT,bT,bF,bF]) (by kernel_rfl) ?_;refine wpAnyH_take (i:=28) (oi:=⟨UX 36,_,_,_,_,_⟩) (v:=?_) rfl (by kernel_rfl) (by kernel_rfl) (by kernel_rfl) (λ_ _ _ h=>h) (Or.inl ⟨by rfl,?_⟩) ?_ ?_;rotate_left 1
  ·(intro W9 az;have dh:W9.cell? ⟨pb,0,UW⟩=UX (UN d):=az.1;have di:W9.cell? ⟨pb,2,UW⟩=UX (UM US fr):=az.2;clear az;go_simp;try with_reducible rfl)
  ·first|assumption|exact⟨e0,e1⟩|(refine⟨?_,?_⟩<;>(go_simp;done))
  conv=>arg 8;simp only[Act.put,aq,al,ar]
  refine aK (l':=#[bT,bT,bT,bT,bT,bT,bT,bT,bT,bT,bT,bT,bT,bT,bT,bT,bT,bT,bT,bT,bT,bT,bT,bT,bT,bT,bT,bT,bT,bF]) (by kernel_rfl) ?_;refine wpAnyH_ready (rs:=[29]) (by kernel_rfl) (by simp) ?_;refine AllReadyH.cons (o:=⟨UW,_,_,_,_,_⟩) rfl (λK hK=>?_) AllReadyH.nil;go_simp;refine hK _ _ ⟨?_,?_⟩
  ·clear hK K;first|assumption|exact⟨e0,e1⟩|(refine⟨?_,?_⟩<;>(go_simp;done))
  clear hK K
  conv=>arg 8;simp only[Act.put,aq,al,ar]
  refine aK (l':=#[bT,bT,bT,bT,bT,bT,bT,bT,bT,bT,bT,bT,bT,bT,bT,bT,bT,bT,bT,bT,bT,bT,bT,bT,bT,bT,bT,bT,bT,bT]) (by kernel_rfl) ?_;refine wpAnyH_done (by kernel_rfl) ?_ _
  have lE:RV ((w1.setCell ⟨pb,1,UW⟩ (UO A' (n+2) c')).setCell ⟨pb,2,UW⟩ (UM US b)) B pb d (ps++[(false,[],St.aY d.1.1 fr a),(true,key.1.1,St.aY d.1.1 a b)],b):=by
   refine⟨HB.out,UO A' (n+2) c',heap_setCell_same _ pb 2 _ _ _ (heap_setCell_same _ pb 1 _ _ _ hb4),?_⟩;refine aA (aA ?_ (aU hown' hb4 (by decide))) (aU hown' hb4 (by decide));rw[jt.out,List.length_append,hn];exact hown'
  have hbl:Below B w ((w1.setCell ⟨pb,1,UW⟩ (UO A' (n+2) c')).setCell ⟨pb,2,UW⟩ (UM US b)):=(dn (Below.refl B w) hBw hgr (λg hg=>aG HO.out g hg) HB.out).setCell (p:=⟨pb,2,UW⟩) HB.out _
  have htk:eC we w ((w1.setCell ⟨pb,1,UW⟩ (UO A' (n+2) c')).setCell ⟨pb,2,UW⟩ (UM US b)):=
   ((mz hgr (jf HO.out _ (by simp[we]))).trans (jl (p:=⟨pb,1,UW⟩) hb4 (by simp[we]))).trans (jl (p:=⟨pb,2,UW⟩) (heap_setCell_same _ pb 1 _ _ _ hb4) (by simp[we]))
  have HE:=aa (And.intro lE (And.intro hbl htk));clear lE hbl htk hb4 hgr hgrow hown';go_wp2;go_end0;exact⟨rfl,HE.out.1,HE.out.2.1,HE.out.2.2⟩
 exact AllReadyH.nil
theorem uM(w:World)(B pb:Nat)(d:ByteArray)(s:St.PS)(h:RV w B pb d s)(h1:s.2<=d.size)(hd:d.size<=4611686018427387904)(hl:s.1.length<=1000000)(hBw:B<=w.1.size) :
  Calls Tryz.prog 139 #[.pointer (UX ⟨pb,0,UW⟩)] w λe w'=>∃A c,e=.returned (UO A (s.1.length+1) c)/\bn w' A (St.cD d.1.1 s)/\s.1.length+1<=c/\c<=9223372036854775807/\Below B w w':=by
 obtain⟨hB,v,hbk,hown⟩:=h;obtain⟨ps,fr⟩:=s;simp only at hbk hown h1 hl;obtain⟨A,c,rfl,_⟩:=aL hown;have g0:w.cell? ⟨pb,0,UW⟩=UX (UN d):=ak hbk 0;have g1:w.cell? ⟨pb,2,UW⟩=UX (UM US fr):=ak hbk 2;have g2:w.cell? ⟨pb,1,UW⟩=UX (UO A ps.length c):=ak hbk 1;haveI:af pb w:=af.of (ae hbk);obtain⟨i0,hi,hz0,hz1,hz2⟩:=info_parts mV;obtain⟨s1,hE1⟩:∃s1,d.extract fr d.size=s1:=⟨_,rfl⟩;have y1:(0:Int)<=fr:=by omega
 have y2:(fr:Int)<=d.size:=by omega
 have HO:=aa hown;have HK:=aa hbk
 have hcl:bW (St.cD d.1.1 (ps,fr))=bW ps++[UP false,UN ⟨#[]⟩,UN s1]:=by
  have h0:(⟨(d.1.1.drop fr).toArray⟩:ByteArray)=s1:=by
   rw[<-hE1,<-tp];unfold St.aY;rw[List.take_of_length_le (by simp)]
  unfold St.cD;rw[nG];simp only[bW,List.flatMap_cons,List.flatMap_nil,List.append_nil,h0]
 have jt:=aa hcl;generalize hn:ps.length=n at *;clear hown hbk hB hcl;go_enter Tryz.func139,Tryz.ntmps139;go_wp2_with fail;go_region_held3 (λw'=>w'.cell? ⟨pb,0,none⟩=some (.string d)/\w'.cell? ⟨pb,2,none⟩=some (.int .i64 fr)/\w'.cell? ⟨pb,1,none⟩=some (.slice A n c)) (first|go_keep|exact⟨e0,e1,e2⟩|(refine⟨?_,?_,?_⟩<;>go_simp)) ((refine cH rfl (.tmp 6) (.tmp 17) 23 rfl B 64 i0 (.agg #[.bool false,.string ⟨#[]⟩,.string ⟨#[]⟩]) 3 40 Tryz.underlying23 hi hz0 hz1 hz2 rfl (by decide) (.slice A n c) n _ rfl (eK (HO.out.alloc (.cells #[.bool false,.string ⟨#[]⟩,.string s1] 64)) (ac.refl _).drew) ⟨w.1.size,0,none⟩ 1 1 [.bool false,.string ⟨#[]⟩,.string s1] rfl rfl (eA w _ _ _ 64 _ rfl) (yJ _ _ _) (by unfold maxLen;omega) (by omega) (by simp;omega) ?_;intro v' w1 hown' hgrow _;have hgr:=aW (ac.gb (uZ:ac w (w.alloc (.cells #[.bool false,.string ⟨#[]⟩,.string s1] 64)).drew) (Value.slice A n c).ownBlock) hgrow (λg e=>Or.inl e);have hb4:w1.1[pb]?=_:=(hgr.block pb (ae HK.out) (λe=>aU HO.out HK.out (by decide) e.symm)).trans HK.out;have e0:w1.cell? ⟨pb,0,none⟩=some (.string d):=ak hb4 0;have e1:w1.cell? ⟨pb,2,none⟩=some (.int .i64 fr):=ak hb4 2;have e2:w1.cell? ⟨pb,1,none⟩=some (.slice A n c):=ak hb4 1;obtain⟨A',c',rfl,hq1,hq2⟩:=aL hown'))
 all_goals
  have hbl:Below B w w1:=(((Below.refl B w).alloc hBw _).drew).grown hgrow (by simp;omega) (λg hg=>aG HO.out g hg);have li:bn w1 A' (St.cD d.1.1 (ps,fr)):=po (n:=n+1) (by rw[jt.out];exact hown') (by simp[St.cD,hn]);have HE:=aa (And.intro li hbl);have mh:=aa hq1;clear hbl li hgrow hown' hq1;go_wp2;go_ret;exact⟨_,_,rfl,HE.out.1,mh.out,by unfold maxLen at hq2;omega,HE.out.2⟩
