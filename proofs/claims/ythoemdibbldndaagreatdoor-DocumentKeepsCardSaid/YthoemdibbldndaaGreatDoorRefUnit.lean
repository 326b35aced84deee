/- The contracts of the reference's builder: unit, end. -/
import Derived.Test.YthoemdibbldndaaGreatDoorPart
set_option linter.all false
set_option maxHeartbeats 0
set_option maxRecDepth 20000
open Go.Value renaming int->Yh,string->Yi,slice->Yj,bool->Yk
open Option renaming none->Yq,some->Yr
namespace Go.Proofs.YthoemdibbldndaaGreatDoor
open Go.RowKit
def RV(w:World)(B pb:Nat)(d:ByteArray)(s:St.PS):Prop:=
 B<=pb/\∃v,w.1[pb]?=Yr (Obj.cells #[Yi d,v,Yh .i64 s.2] 191 (0,0))/\w.ownsRow B 64 3 v s.1.length (bX s.1)
theorem RV.ai{a c:World}{B pb:Nat}{d:ByteArray}{s:St.PS}(h:RV a B pb d s)(u:ac a c):RV c B pb d s:=by
 obtain⟨h0,v,h1,h2⟩:=h;exact⟨h0,v,(u.below.block pb (ae h1)).trans h1,aF u h2⟩
def xW:List TypeId:=[191,64]
theorem qf(w:World)(B pb:Nat)(d key:ByteArray)(s:St.PS)(a b:Nat)(h:RV w B pb d s)(h1:s.2<=a)(h2:a<=b)(h3:b<=d.size)(hd:d.size<=4611686018427387904)(hl:s.1.length<=1000000)(hBw:B<=w.1.size) :
  Calls Tryz.prog 138 #[.pointer (Yr ⟨pb,0,Yq⟩),Yi key,Yh .i64 a,Yh .i64 b] w λe w'=>e=.returned (.tuple #[])/\RV w' B pb d (St.bi d.1.1 s a b key.1.1)/\Below B w w'/\eJ xW w w':=by
 obtain⟨hB,v,hbk,hown⟩:=h;obtain⟨ps,fr⟩:=s;simp only at hbk hown h1 hl;obtain⟨A,c,rfl,_⟩:=aJ hown;have g0:w.cell? ⟨pb,0,Yq⟩=Yr (Yi d):=aj hbk 0;have g1:w.cell? ⟨pb,2,Yq⟩=Yr (Yh .i64 fr):=aj hbk 2;have g2:w.cell? ⟨pb,1,Yq⟩=Yr (Yj A ps.length c):=aj hbk 1;haveI:af pb w:=af.of (ae hbk);obtain⟨i0,hi,hz0,hz1,hz2⟩:=info_parts nP;obtain⟨s1,hE1⟩:∃s1,d.extract fr a=s1:=⟨_,rfl⟩;obtain⟨s2,hE2⟩:∃s2,d.extract a b=s2:=⟨_,rfl⟩;have y1:(0:Int)<=fr:=by omega
 have y2:(fr:Int)<=a:=by omega
 have y3:(a:Int)<=b:=by omega
 have y4:(b:Int)<=d.size:=by omega
 have y5:(a:Int)<=d.size:=by omega
 have HO:=aa hown;have HB:=aa hB;have HK:=aa hbk
 have hcl:bX (ps++[(false,[],St.a6 d.1.1 fr a),(true,key.1.1,St.a6 d.1.1 a b)])=bX ps++[Yk false,Yi ⟨#[]⟩,Yi s1,Yk true,Yi key,Yi s2]:=by
  rw[oe];simp only[bX,List.flatMap_cons,List.flatMap_nil,List.append_nil,uB,bn,hE1,hE2];rfl
 have jL:=aa hcl;generalize hn:ps.length=n at *;clear hown hbk hB hcl;go_enter Tryz.func138,Tryz.ntmps138;go_wp2_with fail;refine wp_region_any (by kernel_rfl) ?_
 try (change wpAny _ _ _ _ _ _ _ (World.drew _))
 refine FZ (l':=#[bF,bF,bF,bF,bF,bF,bF,bF,bF,bF,bF,bF,bF,bF,bF,bF,bF,bF,bF,bF,bF,bF,bF,bF,bF,bF,bF,bF,bF,bF]) (by kernel_rfl) ?_;refine wpAny_of_held (S:=λW=>W.cell? ⟨pb,0,Yq⟩=Yr (Yi d)/\W.cell? ⟨pb,2,Yq⟩=Yr (Yh .i64 fr)) _ _ _ _ ?_;refine dw 0 ⟨Yr 8,_,_,_,_,_⟩ rfl ?_;refine dw 1 ⟨Yr 9,_,_,_,_,_⟩ rfl ?_;refine dw 2 ⟨Yr 10,_,_,_,_,_⟩ rfl ?_;refine dw 3 ⟨Yr 11,_,_,_,_,_⟩ rfl ?_;refine dw 5 ⟨Yr 13,_,_,_,_,_⟩ rfl ?_;refine dw 6 ⟨Yr 14,_,_,_,_,_⟩ rfl ?_;refine dw 7 ⟨Yr 15,_,_,_,_,_⟩ rfl ?_;refine dw 8 ⟨Yr 16,_,_,_,_,_⟩ rfl ?_;refine dw 9 ⟨Yr 17,_,_,_,_,_⟩ rfl ?_;refine dw 10 ⟨Yr 18,_,_,_,_,_⟩ rfl ?_;refine dw 11 ⟨Yr 19,_,_,_,_,_⟩ rfl ?_;refine dw 12 ⟨Yr 20,_,_,_,_,_⟩ rfl ?_;refine dw 13 ⟨Yr 21,_,_,_,_,_⟩ rfl ?_;refine dw 14 ⟨Yr 22,_,_,_,_,_⟩ rfl ?_;refine dw 15 ⟨Yr 23,_,_,_,_,_⟩ rfl ?_;refine dw 16 ⟨Yr 24,_,_,_,_,_⟩ rfl ?_;refine dw 17 ⟨Yr 25,_,_,_,_,_⟩ rfl ?_;refine dw 18 ⟨Yr 26,_,_,_,_,_⟩ rfl ?_;refine dw 19 ⟨Yr 27,_,_,_,_,_⟩ rfl ?_;refine dw 20 ⟨Yr 28,_,_,_,_,_⟩ rfl ?_;refine dw 21 ⟨Yr 29,_,_,_,_,_⟩ rfl ?_;refine dw 22 ⟨Yr 30,_,_,_,_,_⟩ rfl ?_;refine dw 23 ⟨Yr 31,_,_,_,_,_⟩ rfl ?_;refine dw 24 ⟨Yr 32,_,_,_,_,_⟩ rfl ?_;refine wpAnyH_ready (rs:=[4,25]) (by kernel_rfl) (by simp) ?_;refine AllReadyH.cons (o:=⟨Yr 12,_,_,_,_,_⟩) rfl (λK hK=>?_) ?_
 ·go_simp;refine hK _ _ ⟨?_,?_⟩
  ·clear hK K;first|assumption|exact⟨e0,e1⟩|(refine⟨?_,?_⟩<;>(go_simp;done))
  clear hK K
  conv=>arg 8;simp only[Act.put,ax,aw,ay]
  refine eD (l':=#[bT,bT,bT,bT,bT,bT,bT,bT,bT,bT,bT,bT,bT,bT,bT,bT,bT,bT,bT,bT,bT,bT,bT,bT,bT,bF,bF,bF,bF,bF]) (by kernel_rfl) ?_;refine wpAnyH_ready (rs:=[25]) (by kernel_rfl) (by simp) ?_;refine AllReadyH.cons (o:=⟨Yr 33,_,_,_,_,_⟩) rfl (λK hK=>?_) AllReadyH.nil;go_simp;refine hK _ _ ⟨?_,?_⟩
  ·clear hK K;first|assumption|exact⟨e0,e1⟩|(refine⟨?_,?_⟩<;>(go_simp;done))
  clear hK K
  conv=>arg 8;simp only[Act.put,ax,aw,ay]
  refine eD (l':=#[bT,bT,bT,bT,bT,bT,bT,bT,bT,bT,bT,bT,bT,bT,bT,bT,bT,bT,bT,bT,bT,bT,bT,bT,bT,bT,bF,bF,bF,bF]) (by kernel_rfl) ?_;refine wpAnyH_ready (rs:=[26]) (by kernel_rfl) (by simp) ?_;refine AllReadyH.cons (o:=⟨some 34,_,_,_,_,_⟩) rfl (λK hK=>?_) AllReadyH.nil;refine cF rfl (.tmp 12) (.tmp 33) 23 rfl B 64 i0 (.agg #[.bool false,.string ⟨#[]⟩,.string ⟨#[]⟩]) 3 40 Tryz.underlying23 hi hz0 hz1 hz2 rfl (by decide) (.slice A n c) n _ rfl (dV (HO.out.alloc (.cells #[.bool false,.string ⟨#[]⟩,.string s1,.bool true,.string key,.string s2] 64)) (ac.refl _).drew) ⟨w.1.size,0,none⟩ 2 2 [.bool false,.string ⟨#[]⟩,.string s1,.bool true,.string key,.string s2] rfl rfl (BK w _ _ _ _ _ _ 64 _ rfl) (r9 _ _ _ _ _ _) (by unfold maxLen;omega) (by omega) (by simp;omega) ?_;intro v' w1 hown' hgrow _;have hgr:=aO (ac.gb (uZ:ac w (w.alloc (.cells #[.bool false,.string ⟨#[]⟩,.string s1,.bool true,.string key,.string s2] 64)).drew) (Value.slice A n c).ownBlock) hgrow (λg e=>Or.inl e);have hb4:w1.1[pb]?=_:=(hgr.block pb (ae HK.out) (λe=>aT HO.out HK.out (by decide) e.symm)).trans HK.out;have e0:w1.cell? ⟨pb,0,none⟩=some (.string d):=aj hb4 0;have e1:w1.cell? ⟨pb,2,none⟩=some (.int .i64 fr):=aj hb4 2;have e2:w1.cell? ⟨pb,1,none⟩=some (.slice A n c):=aj hb4 1;have f1:w1.frozen? ⟨pb,2,none⟩=false:=bz hb4 2;have f2:w1.frozen? ⟨pb,1,none⟩=false:=bz hb4 1;haveI:af pb w1:=af.of (ae hb4);obtain⟨A',c',rfl,_⟩:=aJ hown';refine hK _ _ ⟨?_,?_⟩
  ·clear hK K;first|assumption|exact⟨e0,e1⟩|(refine⟨?_,?_⟩<;>(go_simp;done))
  clear hK K
  conv=>arg 8;simp only[Act.put,ax,aw,ay]
  refine eD (l':=#[bT,bT,bT,bT,bT,bT,bT,bT,bT,bT,bT,bT,bT,bT,bT,bT,bT,bT,bT,bT,bT,bT,bT,bT,bT,bT,bT,bF,bF,bF]) (by kernel_rfl) ?_;refine dw 27 ⟨Yr 35,_,_,_,_,_⟩ rfl ?_;refine dw 28 ⟨Yr 36,_,_,_,_,_⟩ rfl ?_;refine wpAnyH_ready (rs:=[29]) (by kernel_rfl) (by simp) ?_;refine AllReadyH.cons (o:=⟨Yq,_,_,_,_,_⟩) rfl (λK hK=>?_) AllReadyH.nil;go_simp;refine hK _ _ ⟨?_,?_⟩
  ·clear hK K;first|assumption|exact⟨e0,e1⟩|(refine⟨?_,?_⟩<;>(go_simp;done))
  clear hK K
  conv=>arg 8;simp only[Act.put,ax,aw,ay]
  refine eD (l':=#[bT,bT,bT,bT,bT,bT,bT,bT,bT,bT,bT,bT,bT,bT,bT,bT,bT,bT,bT,bT,bT,bT,bT,bT,bT,bT,bT,bT,bT,bT]) (by kernel_rfl) ?_;refine wpAnyH_done (by kernel_rfl) ?_ _
  have l7:RV ((w1.setCell ⟨pb,1,Yq⟩ (Yj A' (n+2) c')).setCell ⟨pb,2,Yq⟩ (Yh .i64 b)) B pb d (ps++[(false,[],St.a6 d.1.1 fr a),(true,key.1.1,St.a6 d.1.1 a b)],b):=by
   refine⟨HB.out,Yj A' (n+2) c',heap_setCell_same _ pb 2 _ _ _ (heap_setCell_same _ pb 1 _ _ _ hb4),?_⟩;refine aD (aD ?_ (aT hown' hb4 (by decide))) (aT hown' hb4 (by decide));rw[jL.out,List.length_append,hn];exact hown'
  have hbl:Below B w ((w1.setCell ⟨pb,1,Yq⟩ (Yj A' (n+2) c')).setCell ⟨pb,2,Yq⟩ (Yh .i64 b)):=(dx (Below.refl B w) hBw hgr (λg hg=>aB HO.out g hg) HB.out).setCell (p:=⟨pb,2,Yq⟩) HB.out _
  have htk:eJ xW w ((w1.setCell ⟨pb,1,Yq⟩ (Yj A' (n+2) c')).setCell ⟨pb,2,Yq⟩ (Yh .i64 b)):=
   ((np hgr (jt HO.out _ (by simp[xW]))).trans (jA (p:=⟨pb,1,Yq⟩) hb4 (by simp[xW]))).trans (jA (p:=⟨pb,2,Yq⟩) (heap_setCell_same _ pb 1 _ _ _ hb4) (by simp[xW]))
  have HE:=aa (And.intro l7 (And.intro hbl htk));clear l7 hbl htk hb4 hgr hgrow hown';go_wp2;go_end0;exact⟨rfl,HE.out.1,HE.out.2.1,HE.out.2.2⟩
 refine AllReadyH.cons (o:=⟨Yr 33,_,_,_,_,_⟩) rfl (λK hK=>?_) ?_
 ·go_simp;refine hK _ _ ⟨?_,?_⟩
  ·clear hK K;first|assumption|exact⟨e0,e1⟩|(refine⟨?_,?_⟩<;>(go_simp;done))
  clear hK K
  conv=>arg 8;simp only[Act.put,ax,aw,ay]
  refine eD (l':=#[bT,bT,bT,bT,bF,bT,bT,bT,bT,bT,bT,bT,bT,bT,bT,bT,bT,bT,bT,bT,bT,bT,bT,bT,bT,bT,bF,bF,bF,bF]) (by kernel_rfl) ?_;refine wpAnyH_ready (rs:=[4]) (by kernel_rfl) (by simp) ?_;refine AllReadyH.cons (o:=⟨Yr 12,_,_,_,_,_⟩) rfl (λK hK=>?_) AllReadyH.nil;go_simp;refine hK _ _ ⟨?_,?_⟩
  ·clear hK K;first|assumption|exact⟨e0,e1⟩|(refine⟨?_,?_⟩<;>(go_simp;done))
  clear hK K
  conv=>arg 8;simp only[Act.put,ax,aw,ay]
  refine eD (l':=#[bT,bT,bT,bT,bT,bT,bT,bT,bT,bT,bT,bT,bT,bT,bT,bT,bT,bT,bT,bT,bT,bT,bT,bT,bT,bT,bF,bF,bF,bF]) (by kernel_rfl) ?_;refine wpAnyH_ready (rs:=[26]) (by kernel_rfl) (by simp) ?_;refine AllReadyH.cons (o:=⟨some 34,_,_,_,_,_⟩) rfl (λK hK=>?_) AllReadyH.nil;refine cF rfl (.tmp 12) (.tmp 33) 23 rfl B 64 i0 (.agg #[.bool false,.string ⟨#[]⟩,.string ⟨#[]⟩]) 3 40 Tryz.underlying23 hi hz0 hz1 hz2 rfl (by decide) (.slice A n c) n _ rfl (dV (HO.out.alloc (.cells #[.bool false,.string ⟨#[]⟩,.string s1,.bool true,.string key,.string s2] 64)) (ac.refl _).drew) ⟨w.1.size,0,none⟩ 2 2 [.bool false,.string ⟨#[]⟩,.string s1,.bool true,.string key,.string s2] rfl rfl (BK w _ _ _ _ _ _ 64 _ rfl) (r9 _ _ _ _ _ _) (by unfold maxLen;omega) (by omega) (by simp;omega) ?_;intro v' w1 hown' hgrow _;have hgr:=aO (ac.gb (uZ:ac w (w.alloc (.cells #[.bool false,.string ⟨#[]⟩,.string s1,.bool true,.string key,.string s2] 64)).drew) (Value.slice A n c).ownBlock) hgrow (λg e=>Or.inl e);have hb4:w1.1[pb]?=_:=(hgr.block pb (ae HK.out) (λe=>aT HO.out HK.out (by decide) e.symm)).trans HK.out;have e0:w1.cell? ⟨pb,0,none⟩=some (.string d):=aj hb4 0;have e1:w1.cell? ⟨pb,2,none⟩=some (.int .i64 fr):=aj hb4 2;have e2:w1.cell? ⟨pb,1,none⟩=some (.slice A n c):=aj hb4 1;have f1:w1.frozen? ⟨pb,2,none⟩=false:=bz hb4 2;have f2:w1.frozen? ⟨pb,1,none⟩=false:=bz hb4 1;haveI:af pb w1:=af.of (ae hb4);obtain⟨A',c',rfl,_⟩:=aJ hown';refine hK _ _ ⟨?_,?_⟩
  ·clear hK K;first|assumption|exact⟨e0,e1⟩|(refine⟨?_,?_⟩<;>(go_simp;done))
  clear hK K
  conv=>arg 8;simp only[Act.put,ax,aw,ay]
  refine eD (l':=#[bT,bT,bT,bT,bT,bT,bT,bT,bT,bT,bT,bT,bT,bT,bT,bT,bT,bT,bT,bT,bT,bT,bT,bT,bT,bT,bT,bF,bF,bF]) (by kernel_rfl) ?_;refine dw 27 ⟨Yr 35,_,_,_,_,_⟩ rfl ?_;refine dw 28 ⟨Yr 36,_,_,_,_,_⟩ rfl ?_;refine wpAnyH_ready (rs:=[29]) (by kernel_rfl) (by simp) ?_;refine AllReadyH.cons (o:=⟨Yq,_,_,_,_,_⟩) rfl (λK hK=>?_) AllReadyH.nil;go_simp;refine hK _ _ ⟨?_,?_⟩
  ·clear hK K;first|assumption|exact⟨e0,e1⟩|(refine⟨?_,?_⟩<;>(go_simp;done))
  clear hK K
  conv=>arg 8;simp only[Act.put,ax,aw,ay]
  refine eD (l':=#[bT,bT,bT,bT,bT,bT,bT,bT,bT,bT,bT,bT,bT,bT,bT,bT,bT,bT,bT,bT,bT,bT,bT,bT,bT,bT,bT,bT,bT,bT]) (by kernel_rfl) ?_;refine wpAnyH_done (by kernel_rfl) ?_ _
  have l7:RV ((w1.setCell ⟨pb,1,Yq⟩ (Yj A' (n+2) c')).setCell ⟨pb,2,Yq⟩ (Yh .i64 b)) B pb d (ps++[(false,[],St.a6 d.1.1 fr a),(true,key.1.1,St.a6 d.1.1 a b)],b):=by
   refine⟨HB.out,Yj A' (n+2) c',heap_setCell_same _ pb 2 _ _ _ (heap_setCell_same _ pb 1 _ _ _ hb4),?_⟩;refine aD (aD ?_ (aT hown' hb4 (by decide))) (aT hown' hb4 (by decide));rw[jL.out,List.length_append,hn];exact hown'
  have hbl:Below B w ((w1.setCell ⟨pb,1,Yq⟩ (Yj A' (n+2) c')).setCell ⟨pb,2,Yq⟩ (Yh .i64 b)):=(dx (Below.refl B w) hBw hgr (λg hg=>aB HO.out g hg) HB.out).setCell (p:=⟨pb,2,Yq⟩) HB.out _
  have htk:eJ xW w ((w1.setCell ⟨pb,1,Yq⟩ (Yj A' (n+2) c')).setCell ⟨pb,2,Yq⟩ (Yh .i64 b)):=
   ((np hgr (jt HO.out _ (by simp[xW]))).trans (jA (p:=⟨pb,1,Yq⟩) hb4 (by simp[xW]))).trans (jA (p:=⟨pb,2,Yq⟩) (heap_setCell_same _ pb 1 _ _ _ hb4) (by simp[xW]))
  have HE:=aa (And.intro l7 (And.intro hbl htk));clear l7 hbl htk hb4 hgr hgrow hown';go_wp2;go_end0;exact⟨rfl,HE.out.1,HE.out.2.1,HE.out.2.2⟩
 exact AllReadyH.nil
theorem vV(w:World)(B pb:Nat)(d:ByteArray)(s:St.PS)(h:RV w B pb d s)(h1:s.2<=d.size)(hd:d.size<=4611686018427387904)(hl:s.1.length<=1000000)(hBw:B<=w.1.size) :
  Calls Tryz.prog 139 #[.pointer (Yr ⟨pb,0,Yq⟩)] w λe w'=>∃A c,e=.returned (Yj A (s.1.length+1) c)/\bk w' A (St.cI d.1.1 s)/\s.1.length+1<=c/\c<=9223372036854775807/\Below B w w':=by
 obtain⟨hB,v,hbk,hown⟩:=h;obtain⟨ps,fr⟩:=s;simp only at hbk hown h1 hl;obtain⟨A,c,rfl,_⟩:=aJ hown;have g0:w.cell? ⟨pb,0,Yq⟩=Yr (Yi d):=aj hbk 0;have g1:w.cell? ⟨pb,2,Yq⟩=Yr (Yh .i64 fr):=aj hbk 2;have g2:w.cell? ⟨pb,1,Yq⟩=Yr (Yj A ps.length c):=aj hbk 1;haveI:af pb w:=af.of (ae hbk);obtain⟨i0,hi,hz0,hz1,hz2⟩:=info_parts nP;obtain⟨s1,hE1⟩:∃s1,d.extract fr d.size=s1:=⟨_,rfl⟩;have y1:(0:Int)<=fr:=by omega
 have y2:(fr:Int)<=d.size:=by omega
 have HO:=aa hown;have HK:=aa hbk
 have hcl:bX (St.cI d.1.1 (ps,fr))=bX ps++[Yk false,Yi ⟨#[]⟩,Yi s1]:=by
  have h0:(⟨(d.1.1.drop fr).toArray⟩:ByteArray)=s1:=by
   rw[<-hE1,<-uB];unfold St.a6;rw[List.take_of_length_le (by simp)]
  unfold St.cI;rw[oe];simp only[bX,List.flatMap_cons,List.flatMap_nil,List.append_nil,h0]
 have jL:=aa hcl;generalize hn:ps.length=n at *;clear hown hbk hB hcl;go_enter Tryz.func139,Tryz.ntmps139;go_wp2_with fail;go_region_held3 (λw'=>w'.cell? ⟨pb,0,none⟩=some (.string d)/\w'.cell? ⟨pb,2,none⟩=some (.int .i64 fr)/\w'.cell? ⟨pb,1,none⟩=some (.slice A n c)) (first|go_keep|exact⟨e0,e1,e2⟩|(refine⟨?_,?_,?_⟩<;>go_simp)) ((refine cF rfl (.tmp 6) (.tmp 17) 23 rfl B 64 i0 (.agg #[.bool false,.string ⟨#[]⟩,.string ⟨#[]⟩]) 3 40 Tryz.underlying23 hi hz0 hz1 hz2 rfl (by decide) (.slice A n c) n _ rfl (dV (HO.out.alloc (.cells #[.bool false,.string ⟨#[]⟩,.string s1] 64)) (ac.refl _).drew) ⟨w.1.size,0,none⟩ 1 1 [.bool false,.string ⟨#[]⟩,.string s1] rfl rfl (dW w _ _ _ 64 _ rfl) (AN _ _ _) (by unfold maxLen;omega) (by omega) (by simp;omega) ?_;intro v' w1 hown' hgrow _;have hgr:=aO (ac.gb (uZ:ac w (w.alloc (.cells #[.bool false,.string ⟨#[]⟩,.string s1] 64)).drew) (Value.slice A n c).ownBlock) hgrow (λg e=>Or.inl e);have hb4:w1.1[pb]?=_:=(hgr.block pb (ae HK.out) (λe=>aT HO.out HK.out (by decide) e.symm)).trans HK.out;have e0:w1.cell? ⟨pb,0,none⟩=some (.string d):=aj hb4 0;have e1:w1.cell? ⟨pb,2,none⟩=some (.int .i64 fr):=aj hb4 2;have e2:w1.cell? ⟨pb,1,none⟩=some (.slice A n c):=aj hb4 1;obtain⟨A',c',rfl,hq1,hq2⟩:=aJ hown'))
 all_goals
  have hbl:Below B w w1:=(((Below.refl B w).alloc hBw _).drew).grown hgrow (by simp;omega) (λg hg=>aB HO.out g hg);have lK:bk w1 A' (St.cI d.1.1 (ps,fr)):=qd (n:=n+1) (by rw[jL.out];exact hown') (by simp[St.cI,hn]);have HE:=aa (And.intro lK hbl);have mW:=aa hq1;clear hbl lK hgrow hown' hq1;go_wp2;go_ret;exact⟨_,_,rfl,HE.out.1,mW.out,by unfold maxLen at hq2;omega,HE.out.2⟩
