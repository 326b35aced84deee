/- The contracts of the reference's builder: unit, end. -/
import Derived.Test.YthoemdibbldndaaGreatDoorPart
set_option linter.unusedVariables false
set_option linter.unusedSimpArgs false
set_option maxHeartbeats 12800000
set_option maxRecDepth 20000
namespace Go.Proofs.YthoemdibbldndaaGreatDoor
open Go.RowKit
def RV(w:World)(B pb:Nat)(d:ByteArray)(s:St.PS):Prop:=
 B<=pb/\∃ v,w.heap[pb]?=some (Obj.cells #[.string d,v,.int .i64 s.2] 191 (0,0))/\w.ownsRow B 64 3 v s.1.length (cellsP s.1)
theorem RV.und{a c:World}{B pb:Nat}{d:ByteArray}{s:St.PS}(h:RV a B pb d s)(u:Und a c):RV c B pb d s:=by
 obtain⟨h0,v,h1,h2⟩:=h;exact⟨h0,v,(u.below.block pb (lt_of_heap h1)).trans h1,own_und u h2⟩
def rpT:List TypeId:=[191,64]
theorem runit_any(w:World)(B pb:Nat)(d key:ByteArray)(s:St.PS)(a b:Nat)(h:RV w B pb d s)(h1:s.2<=a)(h2:a<=b)(h3:b<=d.size)(hd:d.size<=4611686018427387904)(hl:s.1.length<=1000000)(hBw:B<=w.heap.size) :
  Calls Tryz.prog 138 #[.pointer (some ⟨pb,0,none⟩),.string key,.int .i64 a,.int .i64 b] w fun e w'=>e=.returned (.tuple #[])/\RV w' B pb d (St.unitS d.data.toList s a b key.data.toList)/\Below B w w'/\TKept rpT w w':=by
 obtain⟨hB,v,hbk,hown⟩:=h;obtain⟨ps,fr⟩:=s;simp only at hbk hown h1 hl;obtain⟨A,c,rfl,_⟩:=own_slice hown;have g0:w.cell? ⟨pb,0,none⟩=some (.string d):=zcH hbk 0;have g1:w.cell? ⟨pb,2,none⟩=some (.int .i64 fr):=zcH hbk 2;have g2:w.cell? ⟨pb,1,none⟩=some (.slice A ps.length c):=zcH hbk 1;haveI:LtW pb w:=LtW.of (lt_of_heap hbk);obtain⟨i0,hi,hz0,hz1,hz2⟩:=info_parts info_part;obtain⟨s1,hE1⟩:∃ s1,d.extract fr a=s1:=⟨_,rfl⟩;obtain⟨s2,hE2⟩:∃ s2,d.extract a b=s2:=⟨_,rfl⟩;have y1:(0:Int)<=fr:=by omega
 have y2:(fr:Int)<=a:=by omega
 have y3:(a:Int)<=b:=by omega
 have y4:(b:Int)<=d.size:=by omega
 have y5:(a:Int)<=d.size:=by omega
 have HO:=hid hown;have HB:=hid hB;have HK:=hid hbk
 have hcl:cellsP (ps++[(false,[],St.cutL d.data.toList fr a),(true,key.data.toList,St.cutL d.data.toList a b)])=cellsP ps++[.bool false,.string ⟨#[]⟩,.string s1,.bool true,.string key,.string s2]:=by
  rw[cellsP_app];simp only[cellsP,List.flatMap_cons,List.flatMap_nil,List.append_nil,cut_arr,ba_eta,hE1,hE2];rfl
 have HCL:=hid hcl;generalize hn:ps.length=n at *;clear hown hbk hB hcl;go_enter Tryz.func138,Tryz.ntmps138;go_wp2_with fail;refine wp_region_any (by kernel_rfl) ?_
 try (change wpAny _ _ _ _ _ _ _ (World.drew _))
 refine rg_norm (l':=#[bF,bF,bF,bF,bF,bF,bF,bF,bF,bF,bF,bF,bF,bF,bF,bF,bF,bF,bF,bF,bF,bF,bF,bF,bF,bF,bF,bF,bF,bF]) (by kernel_rfl) ?_;refine wpAny_of_held (S:=fun W=>W.cell? ⟨pb,0,none⟩=some (.string d)/\W.cell? ⟨pb,2,none⟩=some (.int .i64 fr)) _ _ _ _ ?_;refine wpAnyH_take (i:=0) (oi:=⟨some 8,_,_,_,_,_⟩) (v:=?_) rfl (by kernel_rfl) (by kernel_rfl) (by kernel_rfl) (fun _ _ _ h=>h) (Or.inl ⟨by rfl,?_⟩) ?_ ?_;rotate_left 1
 ·(intro W9 hS9;have hS7:W9.cell? ⟨pb,0,none⟩=some (.string d):=hS9.1;have hS8:W9.cell? ⟨pb,2,none⟩=some (.int .i64 fr):=hS9.2;clear hS9;go_simp;try with_reducible rfl)
 ·first|assumption|exact⟨e0,e1⟩|(refine⟨?_,?_⟩ <;> (go_simp;done))
 conv=>arg 8;simp only[Act.put,zsA,zsB,zsC]
 refine rgH_norm (l':=#[bT,bF,bF,bF,bF,bF,bF,bF,bF,bF,bF,bF,bF,bF,bF,bF,bF,bF,bF,bF,bF,bF,bF,bF,bF,bF,bF,bF,bF,bF]) (by kernel_rfl) ?_;refine wpAnyH_take (i:=1) (oi:=⟨some 9,_,_,_,_,_⟩) (v:=?_) rfl (by kernel_rfl) (by kernel_rfl) (by kernel_rfl) (fun _ _ _ h=>h) (Or.inl ⟨by rfl,?_⟩) ?_ ?_;rotate_left 1
 ·(intro W9 hS9;have hS7:W9.cell? ⟨pb,0,none⟩=some (.string d):=hS9.1;have hS8:W9.cell? ⟨pb,2,none⟩=some (.int .i64 fr):=hS9.2;clear hS9;go_simp;try with_reducible rfl)
 ·first|assumption|exact⟨e0,e1⟩|(refine⟨?_,?_⟩ <;> (go_simp;done))
 conv=>arg 8;simp only[Act.put,zsA,zsB,zsC]
 refine rgH_norm (l':=#[bT,bT,bF,bF,bF,bF,bF,bF,bF,bF,bF,bF,bF,bF,bF,bF,bF,bF,bF,bF,bF,bF,bF,bF,bF,bF,bF,bF,bF,bF]) (by kernel_rfl) ?_;refine wpAnyH_take (i:=2) (oi:=⟨some 10,_,_,_,_,_⟩) (v:=?_) rfl (by kernel_rfl) (by kernel_rfl) (by kernel_rfl) (fun _ _ _ h=>h) (Or.inl ⟨by rfl,?_⟩) ?_ ?_;rotate_left 1
 ·(intro W9 hS9;have hS7:W9.cell? ⟨pb,0,none⟩=some (.string d):=hS9.1;have hS8:W9.cell? ⟨pb,2,none⟩=some (.int .i64 fr):=hS9.2;clear hS9;go_simp;try with_reducible rfl)
 ·first|assumption|exact⟨e0,e1⟩|(refine⟨?_,?_⟩ <;> (go_simp;done))
 conv=>arg 8;simp only[Act.put,zsA,zsB,zsC]
 refine rgH_norm (l':=#[bT,bT,bT,bF,bF,bF,bF,bF,bF,bF,bF,bF,bF,bF,bF,bF,bF,bF,bF,bF,bF,bF,bF,bF,bF,bF,bF,bF,bF,bF]) (by kernel_rfl) ?_;refine wpAnyH_take (i:=3) (oi:=⟨some 11,_,_,_,_,_⟩) (v:=?_) rfl (by kernel_rfl) (by kernel_rfl) (by kernel_rfl) (fun _ _ _ h=>h) (Or.inl ⟨by rfl,?_⟩) ?_ ?_;rotate_left 1
 ·(intro W9 hS9;have hS7:W9.cell? ⟨pb,0,none⟩=some (.string d):=hS9.1;have hS8:W9.cell? ⟨pb,2,none⟩=some (.int .i64 fr):=hS9.2;clear hS9;go_simp;try with_reducible rfl)
 ·first|assumption|exact⟨e0,e1⟩|(refine⟨?_,?_⟩ <;> (go_simp;done))
 conv=>arg 8;simp only[Act.put,zsA,zsB,zsC]
 refine rgH_norm (l':=#[bT,bT,bT,bT,bF,bF,bF,bF,bF,bF,bF,bF,bF,bF,bF,bF,bF,bF,bF,bF,bF,bF,bF,bF,bF,bF,bF,bF,bF,bF]) (by kernel_rfl) ?_;refine wpAnyH_take (i:=5) (oi:=⟨some 13,_,_,_,_,_⟩) (v:=?_) rfl (by kernel_rfl) (by kernel_rfl) (by kernel_rfl) (fun _ _ _ h=>h) (Or.inl ⟨by rfl,?_⟩) ?_ ?_;rotate_left 1
 ·(intro W9 hS9;have hS7:W9.cell? ⟨pb,0,none⟩=some (.string d):=hS9.1;have hS8:W9.cell? ⟨pb,2,none⟩=some (.int .i64 fr):=hS9.2;clear hS9;go_simp;try with_reducible rfl)
 ·first|assumption|exact⟨e0,e1⟩|(refine⟨?_,?_⟩ <;> (go_simp;done))
 conv=>arg 8;simp only[Act.put,zsA,zsB,zsC]
 refine rgH_norm (l':=#[bT,bT,bT,bT,bF,bT,bF,bF,bF,bF,bF,bF,bF,bF,bF,bF,bF,bF,bF,bF,bF,bF,bF,bF,bF,bF,bF,bF,bF,bF]) (by kernel_rfl) ?_;refine wpAnyH_take (i:=6) (oi:=⟨some 14,_,_,_,_,_⟩) (v:=?_) rfl (by kernel_rfl) (by kernel_rfl) (by kernel_rfl) (fun _ _ _ h=>h) (Or.inl ⟨by rfl,?_⟩) ?_ ?_;rotate_left 1
 ·(intro W9 hS9;have hS7:W9.cell? ⟨pb,0,none⟩=some (.string d):=hS9.1;have hS8:W9.cell? ⟨pb,2,none⟩=some (.int .i64 fr):=hS9.2;clear hS9;go_simp;try with_reducible rfl)
 ·first|assumption|exact⟨e0,e1⟩|(refine⟨?_,?_⟩ <;> (go_simp;done))
 conv=>arg 8;simp only[Act.put,zsA,zsB,zsC]
 refine rgH_norm (l':=#[bT,bT,bT,bT,bF,bT,bT,bF,bF,bF,bF,bF,bF,bF,bF,bF,bF,bF,bF,bF,bF,bF,bF,bF,bF,bF,bF,bF,bF,bF]) (by kernel_rfl) ?_;refine wpAnyH_take (i:=7) (oi:=⟨some 15,_,_,_,_,_⟩) (v:=?_) rfl (by kernel_rfl) (by kernel_rfl) (by kernel_rfl) (fun _ _ _ h=>h) (Or.inl ⟨by rfl,?_⟩) ?_ ?_;rotate_left 1
 ·(intro W9 hS9;have hS7:W9.cell? ⟨pb,0,none⟩=some (.string d):=hS9.1;have hS8:W9.cell? ⟨pb,2,none⟩=some (.int .i64 fr):=hS9.2;clear hS9;go_simp;try with_reducible rfl)
 ·first|assumption|exact⟨e0,e1⟩|(refine⟨?_,?_⟩ <;> (go_simp;done))
 conv=>arg 8;simp only[Act.put,zsA,zsB,zsC]
 refine rgH_norm (l':=#[bT,bT,bT,bT,bF,bT,bT,bT,bF,bF,bF,bF,bF,bF,bF,bF,bF,bF,bF,bF,bF,bF,bF,bF,bF,bF,bF,bF,bF,bF]) (by kernel_rfl) ?_;refine wpAnyH_take (i:=8) (oi:=⟨some 16,_,_,_,_,_⟩) (v:=?_) rfl (by kernel_rfl) (by kernel_rfl) (by kernel_rfl) (fun _ _ _ h=>h) (Or.inl ⟨by rfl,?_⟩) ?_ ?_;rotate_left 1
 ·(intro W9 hS9;have hS7:W9.cell? ⟨pb,0,none⟩=some (.string d):=hS9.1;have hS8:W9.cell? ⟨pb,2,none⟩=some (.int .i64 fr):=hS9.2;clear hS9;go_simp;try with_reducible rfl)
 ·first|assumption|exact⟨e0,e1⟩|(refine⟨?_,?_⟩ <;> (go_simp;done))
 conv=>arg 8;simp only[Act.put,zsA,zsB,zsC]
 refine rgH_norm (l':=#[bT,bT,bT,bT,bF,bT,bT,bT,bT,bF,bF,bF,bF,bF,bF,bF,bF,bF,bF,bF,bF,bF,bF,bF,bF,bF,bF,bF,bF,bF]) (by kernel_rfl) ?_;refine wpAnyH_take (i:=9) (oi:=⟨some 17,_,_,_,_,_⟩) (v:=?_) rfl (by kernel_rfl) (by kernel_rfl) (by kernel_rfl) (fun _ _ _ h=>h) (Or.inl ⟨by rfl,?_⟩) ?_ ?_;rotate_left 1
 ·(intro W9 hS9;have hS7:W9.cell? ⟨pb,0,none⟩=some (.string d):=hS9.1;have hS8:W9.cell? ⟨pb,2,none⟩=some (.int .i64 fr):=hS9.2;clear hS9;go_simp;try with_reducible rfl)
 ·first|assumption|exact⟨e0,e1⟩|(refine⟨?_,?_⟩ <;> (go_simp;done))
 conv=>arg 8;simp only[Act.put,zsA,zsB,zsC]
 refine rgH_norm (l':=#[bT,bT,bT,bT,bF,bT,bT,bT,bT,bT,bF,bF,bF,bF,bF,bF,bF,bF,bF,bF,bF,bF,bF,bF,bF,bF,bF,bF,bF,bF]) (by kernel_rfl) ?_;refine wpAnyH_take (i:=10) (oi:=⟨some 18,_,_,_,_,_⟩) (v:=?_) rfl (by kernel_rfl) (by kernel_rfl) (by kernel_rfl) (fun _ _ _ h=>h) (Or.inl ⟨by rfl,?_⟩) ?_ ?_;rotate_left 1
 ·(intro W9 hS9;have hS7:W9.cell? ⟨pb,0,none⟩=some (.string d):=hS9.1;have hS8:W9.cell? ⟨pb,2,none⟩=some (.int .i64 fr):=hS9.2;clear hS9;go_simp;try with_reducible rfl)
 ·first|assumption|exact⟨e0,e1⟩|(refine⟨?_,?_⟩ <;> (go_simp;done))
 conv=>arg 8;simp only[Act.put,zsA,zsB,zsC]
 refine rgH_norm (l':=#[bT,bT,bT,bT,bF,bT,bT,bT,bT,bT,bT,bF,bF,bF,bF,bF,bF,bF,bF,bF,bF,bF,bF,bF,bF,bF,bF,bF,bF,bF]) (by kernel_rfl) ?_;refine wpAnyH_take (i:=11) (oi:=⟨some 19,_,_,_,_,_⟩) (v:=?_) rfl (by kernel_rfl) (by kernel_rfl) (by kernel_rfl) (fun _ _ _ h=>h) (Or.inl ⟨by rfl,?_⟩) ?_ ?_;rotate_left 1
 ·(intro W9 hS9;have hS7:W9.cell? ⟨pb,0,none⟩=some (.string d):=hS9.1;have hS8:W9.cell? ⟨pb,2,none⟩=some (.int .i64 fr):=hS9.2;clear hS9;go_simp;try with_reducible rfl)
 ·first|assumption|exact⟨e0,e1⟩|(refine⟨?_,?_⟩ <;> (go_simp;done))
 conv=>arg 8;simp only[Act.put,zsA,zsB,zsC]
 refine rgH_norm (l':=#[bT,bT,bT,bT,bF,bT,bT,bT,bT,bT,bT,bT,bF,bF,bF,bF,bF,bF,bF,bF,bF,bF,bF,bF,bF,bF,bF,bF,bF,bF]) (by kernel_rfl) ?_;refine wpAnyH_take (i:=12) (oi:=⟨some 20,_,_,_,_,_⟩) (v:=?_) rfl (by kernel_rfl) (by kernel_rfl) (by kernel_rfl) (fun _ _ _ h=>h) (Or.inl ⟨by rfl,?_⟩) ?_ ?_;rotate_left 1
 ·(intro W9 hS9;have hS7:W9.cell? ⟨pb,0,none⟩=some (.string d):=hS9.1;have hS8:W9.cell? ⟨pb,2,none⟩=some (.int .i64 fr):=hS9.2;clear hS9;go_simp;try with_reducible rfl)
 ·first|assumption|exact⟨e0,e1⟩|(refine⟨?_,?_⟩ <;> (go_simp;done))
 conv=>arg 8;simp only[Act.put,zsA,zsB,zsC]
 refine rgH_norm (l':=#[bT,bT,bT,bT,bF,bT,bT,bT,bT,bT,bT,bT,bT,bF,bF,bF,bF,bF,bF,bF,bF,bF,bF,bF,bF,bF,bF,bF,bF,bF]) (by kernel_rfl) ?_;refine wpAnyH_take (i:=13) (oi:=⟨some 21,_,_,_,_,_⟩) (v:=?_) rfl (by kernel_rfl) (by kernel_rfl) (by kernel_rfl) (fun _ _ _ h=>h) (Or.inl ⟨by rfl,?_⟩) ?_ ?_;rotate_left 1
 ·(intro W9 hS9;have hS7:W9.cell? ⟨pb,0,none⟩=some (.string d):=hS9.1;have hS8:W9.cell? ⟨pb,2,none⟩=some (.int .i64 fr):=hS9.2;clear hS9;go_simp;try with_reducible rfl)
 ·first|assumption|exact⟨e0,e1⟩|(refine⟨?_,?_⟩ <;> (go_simp;done))
 conv=>arg 8;simp only[Act.put,zsA,zsB,zsC]
 refine rgH_norm (l':=#[bT,bT,bT,bT,bF,bT,bT,bT,bT,bT,bT,bT,bT,bT,bF,bF,bF,bF,bF,bF,bF,bF,bF,bF,bF,bF,bF,bF,bF,bF]) (by kernel_rfl) ?_;refine wpAnyH_take (i:=14) (oi:=⟨some 22,_,_,_,_,_⟩) (v:=?_) rfl (by kernel_rfl) (by kernel_rfl) (by kernel_rfl) (fun _ _ _ h=>h) (Or.inl ⟨by rfl,?_⟩) ?_ ?_;rotate_left 1
 ·(intro W9 hS9;have hS7:W9.cell? ⟨pb,0,none⟩=some (.string d):=hS9.1;have hS8:W9.cell? ⟨pb,2,none⟩=some (.int .i64 fr):=hS9.2;clear hS9;go_simp;try with_reducible rfl)
 ·first|assumption|exact⟨e0,e1⟩|(refine⟨?_,?_⟩ <;> (go_simp;done))
 conv=>arg 8;simp only[Act.put,zsA,zsB,zsC]
 refine rgH_norm (l':=#[bT,bT,bT,bT,bF,bT,bT,bT,bT,bT,bT,bT,bT,bT,bT,bF,bF,bF,bF,bF,bF,bF,bF,bF,bF,bF,bF,bF,bF,bF]) (by kernel_rfl) ?_;refine wpAnyH_take (i:=15) (oi:=⟨some 23,_,_,_,_,_⟩) (v:=?_) rfl (by kernel_rfl) (by kernel_rfl) (by kernel_rfl) (fun _ _ _ h=>h) (Or.inl ⟨by rfl,?_⟩) ?_ ?_;rotate_left 1
 ·(intro W9 hS9;have hS7:W9.cell? ⟨pb,0,none⟩=some (.string d):=hS9.1;have hS8:W9.cell? ⟨pb,2,none⟩=some (.int .i64 fr):=hS9.2;clear hS9;go_simp;try with_reducible rfl)
 ·first|assumption|exact⟨e0,e1⟩|(refine⟨?_,?_⟩ <;> (go_simp;done))
 conv=>arg 8;simp only[Act.put,zsA,zsB,zsC]
 refine rgH_norm (l':=#[bT,bT,bT,bT,bF,bT,bT,bT,bT,bT,bT,bT,bT,bT,bT,bT,bF,bF,bF,bF,bF,bF,bF,bF,bF,bF,bF,bF,bF,bF]) (by kernel_rfl) ?_;refine wpAnyH_take (i:=16) (oi:=⟨some 24,_,_,_,_,_⟩) (v:=?_) rfl (by kernel_rfl) (by kernel_rfl) (by kernel_rfl) (fun _ _ _ h=>h) (Or.inl ⟨by rfl,?_⟩) ?_ ?_;rotate_left 1
 ·(intro W9 hS9;have hS7:W9.cell? ⟨pb,0,none⟩=some (.string d):=hS9.1;have hS8:W9.cell? ⟨pb,2,none⟩=some (.int .i64 fr):=hS9.2;clear hS9;go_simp;try with_reducible rfl)
 ·first|assumption|exact⟨e0,e1⟩|(refine⟨?_,?_⟩ <;> (go_simp;done))
 conv=>arg 8;simp only[Act.put,zsA,zsB,zsC]
 refine rgH_norm (l':=#[bT,bT,bT,bT,bF,bT,bT,bT,bT,bT,bT,bT,bT,bT,bT,bT,bT,bF,bF,bF,bF,bF,bF,bF,bF,bF,bF,bF,bF,bF]) (by kernel_rfl) ?_;refine wpAnyH_take (i:=17) (oi:=⟨some 25,_,_,_,_,_⟩) (v:=?_) rfl (by kernel_rfl) (by kernel_rfl) (by kernel_rfl) (fun _ _ _ h=>h) (Or.inl ⟨by rfl,?_⟩) ?_ ?_;rotate_left 1
 ·(intro W9 hS9;have hS7:W9.cell? ⟨pb,0,none⟩=some (.string d):=hS9.1;have hS8:W9.cell? ⟨pb,2,none⟩=some (.int .i64 fr):=hS9.2;clear hS9;go_simp;try with_reducible rfl)
 ·first|assumption|exact⟨e0,e1⟩|(refine⟨?_,?_⟩ <;> (go_simp;done))
 conv=>arg 8;simp only[Act.put,zsA,zsB,zsC]
 refine rgH_norm (l':=#[bT,bT,bT,bT,bF,bT,bT,bT,bT,bT,bT,bT,bT,bT,bT,bT,bT,bT,bF,bF,bF,bF,bF,bF,bF,bF,bF,bF,bF,bF]) (by kernel_rfl) ?_;refine wpAnyH_take (i:=18) (oi:=⟨some 26,_,_,_,_,_⟩) (v:=?_) rfl (by kernel_rfl) (by kernel_rfl) (by kernel_rfl) (fun _ _ _ h=>h) (Or.inl ⟨by rfl,?_⟩) ?_ ?_;rotate_left 1
 ·(intro W9 hS9;have hS7:W9.cell? ⟨pb,0,none⟩=some (.string d):=hS9.1;have hS8:W9.cell? ⟨pb,2,none⟩=some (.int .i64 fr):=hS9.2;clear hS9;go_simp;try with_reducible rfl)
 ·first|assumption|exact⟨e0,e1⟩|(refine⟨?_,?_⟩ <;> (go_simp;done))
 conv=>arg 8;simp only[Act.put,zsA,zsB,zsC]
 refine rgH_norm (l':=#[bT,bT,bT,bT,bF,bT,bT,bT,bT,bT,bT,bT,bT,bT,bT,bT,bT,bT,bT,bF,bF,bF,bF,bF,bF,bF,bF,bF,bF,bF]) (by kernel_rfl) ?_;refine wpAnyH_take (i:=19) (oi:=⟨some 27,_,_,_,_,_⟩) (v:=?_) rfl (by kernel_rfl) (by kernel_rfl) (by kernel_rfl) (fun _ _ _ h=>h) (Or.inl ⟨by rfl,?_⟩) ?_ ?_;rotate_left 1
 ·(intro W9 hS9;have hS7:W9.cell? ⟨pb,0,none⟩=some (.string d):=hS9.1;have hS8:W9.cell? ⟨pb,2,none⟩=some (.int .i64 fr):=hS9.2;clear hS9;go_simp;try with_reducible rfl)
 ·first|assumption|exact⟨e0,e1⟩|(refine⟨?_,?_⟩ <;> (go_simp;done))
 conv=>arg 8;simp only[Act.put,zsA,zsB,zsC]
 refine rgH_norm (l':=#[bT,bT,bT,bT,bF,bT,bT,bT,bT,bT,bT,bT,bT,bT,bT,bT,bT,bT,bT,bT,bF,bF,bF,bF,bF,bF,bF,bF,bF,bF]) (by kernel_rfl) ?_;refine wpAnyH_take (i:=20) (oi:=⟨some 28,_,_,_,_,_⟩) (v:=?_) rfl (by kernel_rfl) (by kernel_rfl) (by kernel_rfl) (fun _ _ _ h=>h) (Or.inl ⟨by rfl,?_⟩) ?_ ?_;rotate_left 1
 ·(intro W9 hS9;have hS7:W9.cell? ⟨pb,0,none⟩=some (.string d):=hS9.1;have hS8:W9.cell? ⟨pb,2,none⟩=some (.int .i64 fr):=hS9.2;clear hS9;go_simp;try with_reducible rfl)
 ·first|assumption|exact⟨e0,e1⟩|(refine⟨?_,?_⟩ <;> (go_simp;done))
 conv=>arg 8;simp only[Act.put,zsA,zsB,zsC]
 refine rgH_norm (l':=#[bT,bT,bT,bT,bF,bT,bT,bT,bT,bT,bT,bT,bT,bT,bT,bT,bT,bT,bT,bT,bT,bF,bF,bF,bF,bF,bF,bF,bF,bF]) (by kernel_rfl) ?_;refine wpAnyH_take (i:=21) (oi:=⟨some 29,_,_,_,_,_⟩) (v:=?_) rfl (by kernel_rfl) (by kernel_rfl) (by kernel_rfl) (fun _ _ _ h=>h) (Or.inl ⟨by rfl,?_⟩) ?_ ?_;rotate_left 1
 ·(intro W9 hS9;have hS7:W9.cell? ⟨pb,0,none⟩=some (.string d):=hS9.1;have hS8:W9.cell? ⟨pb,2,none⟩=some (.int .i64 fr):=hS9.2;clear hS9;go_simp;try with_reducible rfl)
 ·first|assumption|exact⟨e0,e1⟩|(refine⟨?_,?_⟩ <;> (go_simp;done))
 conv=>arg 8;simp only[Act.put,zsA,zsB,zsC]
 refine rgH_norm (l':=#[bT,bT,bT,bT,bF,bT,bT,bT,bT,bT,bT,bT,bT,bT,bT,bT,bT,bT,bT,bT,bT,bT,bF,bF,bF,bF,bF,bF,bF,bF]) (by kernel_rfl) ?_;refine wpAnyH_take (i:=22) (oi:=⟨some 30,_,_,_,_,_⟩) (v:=?_) rfl (by kernel_rfl) (by kernel_rfl) (by kernel_rfl) (fun _ _ _ h=>h) (Or.inl ⟨by rfl,?_⟩) ?_ ?_;rotate_left 1
 ·(intro W9 hS9;have hS7:W9.cell? ⟨pb,0,none⟩=some (.string d):=hS9.1;have hS8:W9.cell? ⟨pb,2,none⟩=some (.int .i64 fr):=hS9.2;clear hS9;go_simp;try with_reducible rfl)
 ·first|assumption|exact⟨e0,e1⟩|(refine⟨?_,?_⟩ <;> (go_simp;done))
 conv=>arg 8;simp only[Act.put,zsA,zsB,zsC]
 refine rgH_norm (l':=#[bT,bT,bT,bT,bF,bT,bT,bT,bT,bT,bT,bT,bT,bT,bT,bT,bT,bT,bT,bT,bT,bT,bT,bF,bF,bF,bF,bF,bF,bF]) (by kernel_rfl) ?_;refine wpAnyH_take (i:=23) (oi:=⟨some 31,_,_,_,_,_⟩) (v:=?_) rfl (by kernel_rfl) (by kernel_rfl) (by kernel_rfl) (fun _ _ _ h=>h) (Or.inl ⟨by rfl,?_⟩) ?_ ?_;rotate_left 1
 ·(intro W9 hS9;have hS7:W9.cell? ⟨pb,0,none⟩=some (.string d):=hS9.1;have hS8:W9.cell? ⟨pb,2,none⟩=some (.int .i64 fr):=hS9.2;clear hS9;go_simp;try with_reducible rfl)
 ·first|assumption|exact⟨e0,e1⟩|(refine⟨?_,?_⟩ <;> (go_simp;done))
 conv=>arg 8;simp only[Act.put,zsA,zsB,zsC]
 refine rgH_norm (l':=#[bT,bT,bT,bT,bF,bT,bT,bT,bT,bT,bT,bT,bT,bT,bT,bT,bT,bT,bT,bT,bT,bT,bT,bT,bF,bF,bF,bF,bF,bF]) (by kernel_rfl) ?_;refine wpAnyH_take (i:=24) (oi:=⟨some 32,_,_,_,_,_⟩) (v:=?_) rfl (by kernel_rfl) (by kernel_rfl) (by kernel_rfl) (fun _ _ _ h=>h) (Or.inl ⟨by rfl,?_⟩) ?_ ?_;rotate_left 1
 ·(intro W9 hS9;have hS7:W9.cell? ⟨pb,0,none⟩=some (.string d):=hS9.1;have hS8:W9.cell? ⟨pb,2,none⟩=some (.int .i64 fr):=hS9.2;clear hS9;go_simp;try with_reducible rfl)
 ·first|assumption|exact⟨e0,e1⟩|(refine⟨?_,?_⟩ <;> (go_simp;done))
 conv=>arg 8;simp only[Act.put,zsA,zsB,zsC]
 refine rgH_norm (l':=#[bT,bT,bT,bT,bF,bT,bT,bT,bT,bT,bT,bT,bT,bT,bT,bT,bT,bT,bT,bT,bT,bT,bT,bT,bT,bF,bF,bF,bF,bF]) (by kernel_rfl) ?_;refine wpAnyH_ready (rs:=[4,25]) (by kernel_rfl) (by simp) ?_;refine AllReadyH.cons (o:=⟨some 12,_,_,_,_,_⟩) rfl (fun K hK=>?_) ?_
 ·skip
  go_simp;refine hK _ _ ⟨?_,?_⟩
  ·clear hK K;first|assumption|exact⟨e0,e1⟩|(refine⟨?_,?_⟩ <;> (go_simp;done))
  clear hK K
  conv=>arg 8;simp only[Act.put,zsA,zsB,zsC]
  refine rgH_norm (l':=#[bT,bT,bT,bT,bT,bT,bT,bT,bT,bT,bT,bT,bT,bT,bT,bT,bT,bT,bT,bT,bT,bT,bT,bT,bT,bF,bF,bF,bF,bF]) (by kernel_rfl) ?_;refine wpAnyH_ready (rs:=[25]) (by kernel_rfl) (by simp) ?_;refine AllReadyH.cons (o:=⟨some 33,_,_,_,_,_⟩) rfl (fun K hK=>?_) AllReadyH.nil;go_simp;refine hK _ _ ⟨?_,?_⟩
  ·clear hK K;first|assumption|exact⟨e0,e1⟩|(refine⟨?_,?_⟩ <;> (go_simp;done))
  clear hK K
  conv=>arg 8;simp only[Act.put,zsA,zsB,zsC]
  refine rgH_norm (l':=#[bT,bT,bT,bT,bT,bT,bT,bT,bT,bT,bT,bT,bT,bT,bT,bT,bT,bT,bT,bT,bT,bT,bT,bT,bT,bT,bF,bF,bF,bF]) (by kernel_rfl) ?_;refine wpAnyH_ready (rs:=[26]) (by kernel_rfl) (by simp) ?_;refine AllReadyH.cons (o:=⟨some 34,_,_,_,_,_⟩) rfl (fun K hK=>?_) AllReadyH.nil;refine step_append_own rfl (.tmp 12) (.tmp 33) 23 rfl B 64 i0 (.agg #[.bool false,.string ⟨#[]⟩,.string ⟨#[]⟩]) 3 40 Tryz.underlying23 hi hz0 hz1 hz2 rfl (by decide) (.slice A n c) n _ rfl (owns_und (HO.out.alloc (.cells #[.bool false,.string ⟨#[]⟩,.string s1,.bool true,.string key,.string s2] 64)) (Und.refl _).drew) ⟨w.heap.size,0,none⟩ 2 2 [.bool false,.string ⟨#[]⟩,.string s1,.bool true,.string key,.string s2] rfl rfl (side6 w _ _ _ _ _ _ 64 _ rfl) (part_one _ _ _ _ _ _) (by unfold maxLen;omega) (by omega) (by simp;omega) ?_;intro v' w1 hown' hgrow _;have hgr:=gb_trans (Und.gb ((by apply_rules[uUe,uUa,uUb,uUc,uUd]):Und w (w.alloc (.cells #[.bool false,.string ⟨#[]⟩,.string s1,.bool true,.string key,.string s2] 64)).drew) (Value.slice A n c).ownBlock) hgrow (fun g e=>Or.inl e);have hb4:w1.heap[pb]?=_:=(hgr.block pb (lt_of_heap HK.out) (fun e=>own_ne HO.out HK.out (by decide) e.symm)).trans HK.out;have e0:w1.cell? ⟨pb,0,none⟩=some (.string d):=zcH hb4 0;have e1:w1.cell? ⟨pb,2,none⟩=some (.int .i64 fr):=zcH hb4 2;have e2:w1.cell? ⟨pb,1,none⟩=some (.slice A n c):=zcH hb4 1;have f1:w1.frozen? ⟨pb,2,none⟩=false:=zfH hb4 2;have f2:w1.frozen? ⟨pb,1,none⟩=false:=zfH hb4 1;haveI:LtW pb w1:=LtW.of (lt_of_heap hb4);obtain⟨A',c',rfl,_⟩:=own_slice hown';refine hK _ _ ⟨?_,?_⟩
  ·clear hK K;first|assumption|exact⟨e0,e1⟩|(refine⟨?_,?_⟩ <;> (go_simp;done))
  clear hK K
  conv=>arg 8;simp only[Act.put,zsA,zsB,zsC]
  refine rgH_norm (l':=#[bT,bT,bT,bT,bT,bT,bT,bT,bT,bT,bT,bT,bT,bT,bT,bT,bT,bT,bT,bT,bT,bT,bT,bT,bT,bT,bT,bF,bF,bF]) (by kernel_rfl) ?_;refine wpAnyH_take (i:=27) (oi:=⟨some 35,_,_,_,_,_⟩) (v:=?_) rfl (by kernel_rfl) (by kernel_rfl) (by kernel_rfl) (fun _ _ _ h=>h) (Or.inl ⟨by rfl,?_⟩) ?_ ?_;rotate_left 1
  ·(intro W9 hS9;have hS7:W9.cell? ⟨pb,0,none⟩=some (.string d):=hS9.1;have hS8:W9.cell? ⟨pb,2,none⟩=some (.int .i64 fr):=hS9.2;clear hS9;go_simp;try with_reducible rfl)
  ·first|assumption|exact⟨e0,e1⟩|(refine⟨?_,?_⟩ <;> (go_simp;done))
  conv=>arg 8;simp only[Act.put,zsA,zsB,zsC]
  refine rgH_norm (l':=#[bT,bT,bT,bT,bT,bT,bT,bT,bT,bT,bT,bT,bT,bT,bT,bT,bT,bT,bT,bT,bT,bT,bT,bT,bT,bT,bT,bT,bF,bF]) (by kernel_rfl) ?_;refine wpAnyH_take (i:=28) (oi:=⟨some 36,_,_,_,_,_⟩) (v:=?_) rfl (by kernel_rfl) (by kernel_rfl) (by kernel_rfl) (fun _ _ _ h=>h) (Or.inl ⟨by rfl,?_⟩) ?_ ?_;rotate_left 1
  ·(intro W9 hS9;have hS7:W9.cell? ⟨pb,0,none⟩=some (.string d):=hS9.1;have hS8:W9.cell? ⟨pb,2,none⟩=some (.int .i64 fr):=hS9.2;clear hS9;go_simp;try with_reducible rfl)
  ·first|assumption|exact⟨e0,e1⟩|(refine⟨?_,?_⟩ <;> (go_simp;done))
  conv=>arg 8;simp only[Act.put,zsA,zsB,zsC]
  refine rgH_norm (l':=#[bT,bT,bT,bT,bT,bT,bT,bT,bT,bT,bT,bT,bT,bT,bT,bT,bT,bT,bT,bT,bT,bT,bT,bT,bT,bT,bT,bT,bT,bF]) (by kernel_rfl) ?_;refine wpAnyH_ready (rs:=[29]) (by kernel_rfl) (by simp) ?_;refine AllReadyH.cons (o:=⟨none,_,_,_,_,_⟩) rfl (fun K hK=>?_) AllReadyH.nil;go_simp;refine hK _ _ ⟨?_,?_⟩
  ·clear hK K;first|assumption|exact⟨e0,e1⟩|(refine⟨?_,?_⟩ <;> (go_simp;done))
  clear hK K
  conv=>arg 8;simp only[Act.put,zsA,zsB,zsC]
  refine rgH_norm (l':=#[bT,bT,bT,bT,bT,bT,bT,bT,bT,bT,bT,bT,bT,bT,bT,bT,bT,bT,bT,bT,bT,bT,bT,bT,bT,bT,bT,bT,bT,bT]) (by kernel_rfl) ?_;refine wpAnyH_done (by kernel_rfl) ?_ _
  have hRV:RV ((w1.setCell ⟨pb,1,none⟩ (.slice A' (n+2) c')).setCell ⟨pb,2,none⟩ (.int .i64 b)) B pb d (ps++[(false,[],St.cutL d.data.toList fr a),(true,key.data.toList,St.cutL d.data.toList a b)],b):=by
   refine⟨HB.out,.slice A' (n+2) c',heap_setCell_same _ pb 2 _ _ _ (heap_setCell_same _ pb 1 _ _ _ hb4),?_⟩;refine own_set (own_set ?_ (own_ne hown' hb4 (by decide))) (own_ne hown' hb4 (by decide));rw[HCL.out,List.length_append,hn];exact hown'
  have hbl:Below B w ((w1.setCell ⟨pb,1,none⟩ (.slice A' (n+2) c')).setCell ⟨pb,2,none⟩ (.int .i64 b)):=(below_step (Below.refl B w) hBw hgr (fun g hg=>owns_block HO.out g hg) HB.out).setCell (p:=⟨pb,2,none⟩) HB.out _
  have htk:TKept rpT w ((w1.setCell ⟨pb,1,none⟩ (.slice A' (n+2) c')).setCell ⟨pb,2,none⟩ (.int .i64 b)):=
   ((tk_grown hgr (own_type HO.out _ (by simp[rpT]))).trans (tk_set (p:=⟨pb,1,none⟩) hb4 (by simp[rpT]))).trans (tk_set (p:=⟨pb,2,none⟩) (heap_setCell_same _ pb 1 _ _ _ hb4) (by simp[rpT]))
  have HE:=hid (And.intro hRV (And.intro hbl htk));clear hRV hbl htk hb4 hgr hgrow hown';go_wp2;go_end0;exact⟨rfl,HE.out.1,HE.out.2.1,HE.out.2.2⟩
 refine AllReadyH.cons (o:=⟨some 33,_,_,_,_,_⟩) rfl (fun K hK=>?_) ?_
 ·skip
  go_simp;refine hK _ _ ⟨?_,?_⟩
  ·clear hK K;first|assumption|exact⟨e0,e1⟩|(refine⟨?_,?_⟩ <;> (go_simp;done))
  clear hK K
  conv=>arg 8;simp only[Act.put,zsA,zsB,zsC]
  refine rgH_norm (l':=#[bT,bT,bT,bT,bF,bT,bT,bT,bT,bT,bT,bT,bT,bT,bT,bT,bT,bT,bT,bT,bT,bT,bT,bT,bT,bT,bF,bF,bF,bF]) (by kernel_rfl) ?_;refine wpAnyH_ready (rs:=[4]) (by kernel_rfl) (by simp) ?_;refine AllReadyH.cons (o:=⟨some 12,_,_,_,_,_⟩) rfl (fun K hK=>?_) AllReadyH.nil;go_simp;refine hK _ _ ⟨?_,?_⟩
  ·clear hK K;first|assumption|exact⟨e0,e1⟩|(refine⟨?_,?_⟩ <;> (go_simp;done))
  clear hK K
  conv=>arg 8;simp only[Act.put,zsA,zsB,zsC]
  refine rgH_norm (l':=#[bT,bT,bT,bT,bT,bT,bT,bT,bT,bT,bT,bT,bT,bT,bT,bT,bT,bT,bT,bT,bT,bT,bT,bT,bT,bT,bF,bF,bF,bF]) (by kernel_rfl) ?_;refine wpAnyH_ready (rs:=[26]) (by kernel_rfl) (by simp) ?_;refine AllReadyH.cons (o:=⟨some 34,_,_,_,_,_⟩) rfl (fun K hK=>?_) AllReadyH.nil;refine step_append_own rfl (.tmp 12) (.tmp 33) 23 rfl B 64 i0 (.agg #[.bool false,.string ⟨#[]⟩,.string ⟨#[]⟩]) 3 40 Tryz.underlying23 hi hz0 hz1 hz2 rfl (by decide) (.slice A n c) n _ rfl (owns_und (HO.out.alloc (.cells #[.bool false,.string ⟨#[]⟩,.string s1,.bool true,.string key,.string s2] 64)) (Und.refl _).drew) ⟨w.heap.size,0,none⟩ 2 2 [.bool false,.string ⟨#[]⟩,.string s1,.bool true,.string key,.string s2] rfl rfl (side6 w _ _ _ _ _ _ 64 _ rfl) (part_one _ _ _ _ _ _) (by unfold maxLen;omega) (by omega) (by simp;omega) ?_;intro v' w1 hown' hgrow _;have hgr:=gb_trans (Und.gb ((by apply_rules[uUe,uUa,uUb,uUc,uUd]):Und w (w.alloc (.cells #[.bool false,.string ⟨#[]⟩,.string s1,.bool true,.string key,.string s2] 64)).drew) (Value.slice A n c).ownBlock) hgrow (fun g e=>Or.inl e);have hb4:w1.heap[pb]?=_:=(hgr.block pb (lt_of_heap HK.out) (fun e=>own_ne HO.out HK.out (by decide) e.symm)).trans HK.out;have e0:w1.cell? ⟨pb,0,none⟩=some (.string d):=zcH hb4 0;have e1:w1.cell? ⟨pb,2,none⟩=some (.int .i64 fr):=zcH hb4 2;have e2:w1.cell? ⟨pb,1,none⟩=some (.slice A n c):=zcH hb4 1;have f1:w1.frozen? ⟨pb,2,none⟩=false:=zfH hb4 2;have f2:w1.frozen? ⟨pb,1,none⟩=false:=zfH hb4 1;haveI:LtW pb w1:=LtW.of (lt_of_heap hb4);obtain⟨A',c',rfl,_⟩:=own_slice hown';refine hK _ _ ⟨?_,?_⟩
  ·clear hK K;first|assumption|exact⟨e0,e1⟩|(refine⟨?_,?_⟩ <;> (go_simp;done))
  clear hK K
  conv=>arg 8;simp only[Act.put,zsA,zsB,zsC]
  refine rgH_norm (l':=#[bT,bT,bT,bT,bT,bT,bT,bT,bT,bT,bT,bT,bT,bT,bT,bT,bT,bT,bT,bT,bT,bT,bT,bT,bT,bT,bT,bF,bF,bF]) (by kernel_rfl) ?_;refine wpAnyH_take (i:=27) (oi:=⟨some 35,_,_,_,_,_⟩) (v:=?_) rfl (by kernel_rfl) (by kernel_rfl) (by kernel_rfl) (fun _ _ _ h=>h) (Or.inl ⟨by rfl,?_⟩) ?_ ?_;rotate_left 1
  ·(intro W9 hS9;have hS7:W9.cell? ⟨pb,0,none⟩=some (.string d):=hS9.1;have hS8:W9.cell? ⟨pb,2,none⟩=some (.int .i64 fr):=hS9.2;clear hS9;go_simp;try with_reducible rfl)
  ·first|assumption|exact⟨e0,e1⟩|(refine⟨?_,?_⟩ <;> (go_simp;done))
  conv=>arg 8;simp only[Act.put,zsA,zsB,zsC]
  refine rgH_norm (l':=#[bT,bT,bT,bT,bT,bT,bT,bT,bT,bT,bT,bT,bT,bT,bT,bT,bT,bT,bT,bT,bT,bT,bT,bT,bT,bT,bT,bT,bF,bF]) (by kernel_rfl) ?_;refine wpAnyH_take (i:=28) (oi:=⟨some 36,_,_,_,_,_⟩) (v:=?_) rfl (by kernel_rfl) (by kernel_rfl) (by kernel_rfl) (fun _ _ _ h=>h) (Or.inl ⟨by rfl,?_⟩) ?_ ?_;rotate_left 1
  ·(intro W9 hS9;have hS7:W9.cell? ⟨pb,0,none⟩=some (.string d):=hS9.1;have hS8:W9.cell? ⟨pb,2,none⟩=some (.int .i64 fr):=hS9.2;clear hS9;go_simp;try with_reducible rfl)
  ·first|assumption|exact⟨e0,e1⟩|(refine⟨?_,?_⟩ <;> (go_simp;done))
  conv=>arg 8;simp only[Act.put,zsA,zsB,zsC]
  refine rgH_norm (l':=#[bT,bT,bT,bT,bT,bT,bT,bT,bT,bT,bT,bT,bT,bT,bT,bT,bT,bT,bT,bT,bT,bT,bT,bT,bT,bT,bT,bT,bT,bF]) (by kernel_rfl) ?_;refine wpAnyH_ready (rs:=[29]) (by kernel_rfl) (by simp) ?_;refine AllReadyH.cons (o:=⟨none,_,_,_,_,_⟩) rfl (fun K hK=>?_) AllReadyH.nil;go_simp;refine hK _ _ ⟨?_,?_⟩
  ·clear hK K;first|assumption|exact⟨e0,e1⟩|(refine⟨?_,?_⟩ <;> (go_simp;done))
  clear hK K
  conv=>arg 8;simp only[Act.put,zsA,zsB,zsC]
  refine rgH_norm (l':=#[bT,bT,bT,bT,bT,bT,bT,bT,bT,bT,bT,bT,bT,bT,bT,bT,bT,bT,bT,bT,bT,bT,bT,bT,bT,bT,bT,bT,bT,bT]) (by kernel_rfl) ?_;refine wpAnyH_done (by kernel_rfl) ?_ _
  have hRV:RV ((w1.setCell ⟨pb,1,none⟩ (.slice A' (n+2) c')).setCell ⟨pb,2,none⟩ (.int .i64 b)) B pb d (ps++[(false,[],St.cutL d.data.toList fr a),(true,key.data.toList,St.cutL d.data.toList a b)],b):=by
   refine⟨HB.out,.slice A' (n+2) c',heap_setCell_same _ pb 2 _ _ _ (heap_setCell_same _ pb 1 _ _ _ hb4),?_⟩;refine own_set (own_set ?_ (own_ne hown' hb4 (by decide))) (own_ne hown' hb4 (by decide));rw[HCL.out,List.length_append,hn];exact hown'
  have hbl:Below B w ((w1.setCell ⟨pb,1,none⟩ (.slice A' (n+2) c')).setCell ⟨pb,2,none⟩ (.int .i64 b)):=(below_step (Below.refl B w) hBw hgr (fun g hg=>owns_block HO.out g hg) HB.out).setCell (p:=⟨pb,2,none⟩) HB.out _
  have htk:TKept rpT w ((w1.setCell ⟨pb,1,none⟩ (.slice A' (n+2) c')).setCell ⟨pb,2,none⟩ (.int .i64 b)):=
   ((tk_grown hgr (own_type HO.out _ (by simp[rpT]))).trans (tk_set (p:=⟨pb,1,none⟩) hb4 (by simp[rpT]))).trans (tk_set (p:=⟨pb,2,none⟩) (heap_setCell_same _ pb 1 _ _ _ hb4) (by simp[rpT]))
  have HE:=hid (And.intro hRV (And.intro hbl htk));clear hRV hbl htk hb4 hgr hgrow hown';go_wp2;go_end0;exact⟨rfl,HE.out.1,HE.out.2.1,HE.out.2.2⟩
 exact AllReadyH.nil
theorem rend_any(w:World)(B pb:Nat)(d:ByteArray)(s:St.PS)(h:RV w B pb d s)(h1:s.2<=d.size)(hd:d.size<=4611686018427387904)(hl:s.1.length<=1000000)(hBw:B<=w.heap.size) :
  Calls Tryz.prog 139 #[.pointer (some ⟨pb,0,none⟩)] w fun e w'=>∃ A c,e=.returned (.slice A (s.1.length+1) c)/\PartsAt w' A (St.endS d.data.toList s)/\s.1.length+1<=c/\c<=9223372036854775807/\Below B w w':=by
 obtain⟨hB,v,hbk,hown⟩:=h;obtain⟨ps,fr⟩:=s;simp only at hbk hown h1 hl;obtain⟨A,c,rfl,_⟩:=own_slice hown;have g0:w.cell? ⟨pb,0,none⟩=some (.string d):=zcH hbk 0;have g1:w.cell? ⟨pb,2,none⟩=some (.int .i64 fr):=zcH hbk 2;have g2:w.cell? ⟨pb,1,none⟩=some (.slice A ps.length c):=zcH hbk 1;haveI:LtW pb w:=LtW.of (lt_of_heap hbk);obtain⟨i0,hi,hz0,hz1,hz2⟩:=info_parts info_part;obtain⟨s1,hE1⟩:∃ s1,d.extract fr d.size=s1:=⟨_,rfl⟩;have y1:(0:Int)<=fr:=by omega
 have y2:(fr:Int)<=d.size:=by omega
 have HO:=hid hown;have HK:=hid hbk
 have hcl:cellsP (St.endS d.data.toList (ps,fr))=cellsP ps++[.bool false,.string ⟨#[]⟩,.string s1]:=by
  have h0:(⟨(d.data.toList.drop fr).toArray⟩:ByteArray)=s1:=by
   rw[<- hE1,<- cut_arr];unfold St.cutL;rw[List.take_of_length_le (by simp)]
  unfold St.endS;rw[cellsP_app];simp only[cellsP,List.flatMap_cons,List.flatMap_nil,List.append_nil,h0]
 have HCL:=hid hcl;generalize hn:ps.length=n at *;clear hown hbk hB hcl;go_enter Tryz.func139,Tryz.ntmps139;go_wp2_with fail;go_region_held3 (fun w'=>w'.cell? ⟨pb,0,none⟩=some (.string d)/\w'.cell? ⟨pb,2,none⟩=some (.int .i64 fr)/\w'.cell? ⟨pb,1,none⟩=some (.slice A n c)) (first|go_keep|exact⟨e0,e1,e2⟩|(refine⟨?_,?_,?_⟩ <;> go_simp)) ((refine step_append_own rfl (.tmp 6) (.tmp 17) 23 rfl B 64 i0 (.agg #[.bool false,.string ⟨#[]⟩,.string ⟨#[]⟩]) 3 40 Tryz.underlying23 hi hz0 hz1 hz2 rfl (by decide) (.slice A n c) n _ rfl (owns_und (HO.out.alloc (.cells #[.bool false,.string ⟨#[]⟩,.string s1] 64)) (Und.refl _).drew) ⟨w.heap.size,0,none⟩ 1 1 [.bool false,.string ⟨#[]⟩,.string s1] rfl rfl (side3b w _ _ _ 64 _ rfl) (part_one1 _ _ _) (by unfold maxLen;omega) (by omega) (by simp;omega) ?_;intro v' w1 hown' hgrow _;have hgr:=gb_trans (Und.gb ((by apply_rules[uUe,uUa,uUb,uUc,uUd]):Und w (w.alloc (.cells #[.bool false,.string ⟨#[]⟩,.string s1] 64)).drew) (Value.slice A n c).ownBlock) hgrow (fun g e=>Or.inl e);have hb4:w1.heap[pb]?=_:=(hgr.block pb (lt_of_heap HK.out) (fun e=>own_ne HO.out HK.out (by decide) e.symm)).trans HK.out;have e0:w1.cell? ⟨pb,0,none⟩=some (.string d):=zcH hb4 0;have e1:w1.cell? ⟨pb,2,none⟩=some (.int .i64 fr):=zcH hb4 2;have e2:w1.cell? ⟨pb,1,none⟩=some (.slice A n c):=zcH hb4 1;obtain⟨A',c',rfl,hq1,hq2⟩:=own_slice hown'))
 all_goals
  have hbl:Below B w w1:=(((Below.refl B w).alloc hBw _).drew).grown hgrow (by simp;omega) (fun g hg=>owns_block HO.out g hg);have hpa:PartsAt w1 A' (St.endS d.data.toList (ps,fr)):=parts_own (n:=n+1) (by rw[HCL.out];exact hown') (by simp[St.endS,hn]);have HE:=hid (And.intro hpa hbl);have hq1':=hid hq1;clear hbl hpa hgrow hown' hq1;go_wp2;go_ret;exact⟨_,_,rfl,HE.out.1,hq1'.out,by unfold maxLen at hq2;omega,HE.out.2⟩
end Go.Proofs.YthoemdibbldndaaGreatDoor
