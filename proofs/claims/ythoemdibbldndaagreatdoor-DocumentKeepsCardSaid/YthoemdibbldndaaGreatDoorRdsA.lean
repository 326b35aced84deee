/- The contract of markup's tag: what it gives is St.tagL. -/
import Derived.Test.YthoemdibbldndaaGreatDoorMkNm
import Derived.BigRegion
import Derived.Test.YthoemdibbldndaaGreatDoorFct
import Derived.Test.YthoemdibbldndaaGreatDoorGD
import Derived.Lib.IndexLaws
import Derived.Deep.RegionLaw
import Derived.Outline
import Derived.WalkSmall
import Derived.Test.YthoemdibbldndaaGreatDoorPart
set_option linter.all false
set_option maxHeartbeats 0
set_option maxRecDepth 20000
open Go.Value renaming int->Yh,string->Yi,slice->Yj,bool->Yk,pointer->Yl,tuple->Ym
open Go.IntKind renaming i64->Yn
open Go.Obj renaming cells->Yo
open Go.Ending renaming returned->Yp
open Go renaming World->Ys
namespace Go.Proofs.YthoemdibbldndaaGreatDoor
open Go.RowKit
namespace St
theorem vD:∀l:List UInt8,Lib.indexByte l 62=if(l.takeWhile (λc=>decide (c.toNat≠62))).length<l.length then((l.takeWhile (λc=>decide (c.toNat≠62))).length:Int)else -1
 | []=>rfl
 | c :: l=>by
  unfold Lib.indexByte
  by_cases h:c.toNat=62
  ·have h2:c=62:=by apply UInt8.toNat_inj.1;simpa using h
   subst h2;simp
  have h2:¬c=62:=λe=>h (by rw[e];rfl)
  have h3:(c==62)=false:=by simpa using h2
  rw[h3,vD l,List.takeWhile_cons_of_pos (by simpa using h),List.length_cons];simp only[List.length_cons,Bool.false_eq_true,if_false]
  by_cases h4:(l.takeWhile (λc=>decide (c.toNat≠62))).length<l.length
  ·rw[if_pos h4,if_neg (by simp<;>omega),if_pos (by omega)];try simp
  rw[if_neg h4,if_pos (by simp),if_neg (by omega)]
theorem Bj{l:List UInt8}(h:¬(di l).length+1<l.length):fW l=none:=by unfold fW;rw[if_neg h]
theorem Bk{l:List UInt8}(h:(di l).length+1<l.length):fW l=(eU (di l)).map λx=>(x.1,x.2,(di l).length+2):=by unfold fW;rw[if_pos h]
theorem Od(l:List UInt8):([47]:List UInt8).isPrefixOf l=decide (l.head?=some 47):=by
 cases l with
 | nil=>rfl
 | cons c r=>
  simp[List.isPrefixOf];rw[Bool.eq_iff_iff,beq_iff_eq,decide_eq_true_iff];exact eq_comm
end St
def wL(R:St.El)(w:Ys)(e:Ending)(w':Ys):Prop:=ac w w'/\match R with
 | some (k,t,n)=>e=Yp (Ym #[.agg #[Yh Yn k,Yi ⟨t.toArray⟩,Yh Yn 0],Yh Yn n,Yk true])
 | none=>∃(k:Int) (x:ByteArray) (m:Int),e=Yp (Ym #[.agg #[Yh Yn k,Yi x,Yh Yn 0],Yh Yn m,Yk false])
theorem qH{R:St.El}{w w':Ys}{k:Int}{t:List UInt8}{n:Nat}{x:ByteArray}{m:Int}(hR:R=some (k,t,n))(hx:x.1.1=t)(hm:m=n)(hu:ac w w'):wL R w (Yp (Ym #[.agg #[Yh Yn k,Yi x,Yh Yn 0],Yh Yn m,Yk true])) w':=by
 subst hm hx hR;exact⟨hu,by simp only[bn]⟩
theorem nB{R:St.El}{w w':Ys}{k:Int}{x:ByteArray}{m:Int}(hR:R=none)(hu:ac w w'):wL R w (Yp (Ym #[.agg #[Yh Yn k,Yi x,Yh Yn 0],Yh Yn m,Yk false])) w':=by
 subst hR;exact⟨hu,_,_,_,rfl⟩
theorem Dn(s:ByteArray)(w:Ys)(hs:s.size<=4611686018427387904)(h0:0<s.size)(lI:s[0].toNat=60) :
  Calls Tryz.prog 166 #[Yi s] w (wL (St.fW s.1.1) w):=by
 have hcr:s.1.1=s[0] :: s.1.1.drop 1:=St.fB s h0;have hlen:=St.aC s
 have ff:s.1.1.takeWhile (λc=>decide (c.toNat≠62))=s[0] :: St.di s.1.1:=by
  conv=>lhs;rw[hcr]
  rw[List.takeWhile_cons_of_pos (by simp[lI])];rfl
 have bP:=λW=>Tryz.strings_IndexByte s 62 W
 have CK:(62:Int).toNat.toUInt8=62:=rfl;rw[CK,St.vD,ff,List.length_cons]at bP;have hpre:St.di s.1.1=(s.1.1.drop 1).take (St.di s.1.1).length:=List.prefix_iff_eq_take.1 (List.takeWhile_prefix _)
 by_cases hlt:(St.di s.1.1).length+1<s.1.1.length
 rotate_left 1
 ·have hR:=aa (St.Bj hlt);rw[if_neg hlt]at bP;have ep:=aa bP;clear bP hlt hpre ff hcr hlen CK;go_enter Tryz.func166,Tryz.ntmps166;go_wp2_with fail;refine(ep.out _).mono ?_;rintro e w' ⟨rfl,rfl⟩;go_wp2;refine bodyPost_ret (v:=Ym #[.agg #[Yh Yn 0,Yi ⟨#[]⟩,Yh Yn 0],Yh Yn 0,Yk false]) (by simp[results,Tryz.results166,go_sem]) rfl ?_;exact nB hR.out uZ
 have hT:=St.Bk hlt;rw[if_pos hlt]at bP;rw[hlen]at hlt;obtain⟨m,hm⟩:∃m,(St.di s.1.1).length=m:=⟨_,rfl⟩;obtain⟨x,hX⟩:∃x,s.extract 1 (m+1)=x:=⟨_,rfl⟩;have hxl:x.1.1=St.di s.1.1:=by rw[hpre,hm,<-hX,Lib.extract_data];simp
 rw[hm]at hT bP hlt;rw[<-hxl]at hT;have hxs:x.size=m:=by rw[<-St.aC,hxl,hm]
 have Wv:x.size<=m:=by omega
 have Ax:m<=x.size:=by omega
 have XO:IntKind.i64.wrap ((m:Int)+1+1)=(m:Int)+1+1:=IntWalk.i64_in _ (by omega);clear hpre ff hcr hlen CK hxl hm hxs;have z1:(1:Int)<=(m:Int)+1:=by omega
 have z2:(m:Int)+1<=(s.size:Int):=by omega
 have z3:¬(m:Int)+1<1:=by omega
 have pV:(((m+1:Nat):Int))=(m:Int)+1:=by omega
 rw[pV]at bP;have ep:=aa bP;have hp:=λW=>jm x ⟨#[47]⟩ W (by omega) (by show 1<=_;omega)
 have hpe:preB ⟨#[47]⟩ x=decide (x.1.1.head?=some 47):=St.Od _;rw[hpe]at hp;have Au:=λW=>GY x W (by omega)
 unfold rr at Au;clear bP hpe pV
 by_cases b1:x.1.1.head?=some 47
 ·have hx1:1<=x.size:=by
   rw[<-St.aC];cases hq:x.1.1 with
   | nil=>rw[hq]at b1;cases b1
   | cons c r=>simp
  obtain⟨y,hY⟩:∃y,x.extract 1 x.size=y:=⟨_,rfl⟩;have iR:y.1.1=x.1.1.drop 1:=by rw[<-hY,Lib.extract_data,List.take_of_length_le (by simp)]
  have hys:y.size<=x.size:=by rw[<-hY];simp
  have hI:St.eU x.1.1=if St.aE y.1.1 then some (3,y.1.1)else none:=by
   unfold St.eU;rw[if_pos b1,iR]
  rw[hI]at hT;have be:=λW=>kG y W (by omega)
  rw[decide_eq_true b1]at hp;have HP:=aa hp;have y1:(1:Int)<=(x.size:Int):=by omega
  have y2:1<=x.size:=hx1;clear hp Au hI b1 iR
  generalize St.aE y.1.1=vb at hT be;have HT:=aa hT;have bt:=aa be;clear hT be;go_enter Tryz.func166,Tryz.ntmps166;go_wp2_with fail;refine(ep.out _).mono ?_;rintro e w' ⟨rfl,rfl⟩;go_wp2_with fail;refine(HP.out _).mono ?_;rintro e w' ⟨rfl,rfl⟩;go_wp2_with fail;go_region;go_wp2_with fail;refine bU (λ_ _=>True) (λL W=>ac w W/\W.1[w.1.size+1]?=some (Yo #[Yh Yn 3,Yi y,Yh Yn 0] 36 (0,0))/\W.1[w.1.size]?=some (Yo #[if L 6=true then Yh Yn 3 else Yh Yn 0,if L 6=true then Yi y else Yi ⟨#[]⟩,Yh Yn 0] 36 (0,0))) ([λv _=>v=.agg #[Yh Yn 3,Yi y,Yh Yn 0],λv _=>v=Yh Yn ((m:Int)+1),λv _=>v=Yh Yn ((m:Int)+1+1),λv _=>v=Yl (some ⟨w.1.size+1,1,none⟩),λv _=>v=Yi y,λv _=>v=Yk vb,λ_ _=>True,λv _=>v=Yh Yn ((m:Int)+1+1),λv _=>v=Yk vb]) (λ_=>trivial) (λ_ _ _ _ _=>trivial) (by kernel_rfl) (by rfl) (by kernel_rfl) (by kernel_rfl) ?_ ?_ ?_ ?_ ?_;rotate_left 1
  ·intro ρ;simp only[bZ,Act.put,ax,aw,ay,Nat.zero_add,Nat.reduceAdd];exact rfl
  ·exact⟨uZ,bJ _ _ _ (by simp),(gi _ _ _ (by simp)).trans (bJ _ _ _ rfl)⟩
  ·refine aq.cons (λρ L W hR hI hL hD hO hF K hK=>?_) ?_
   ·clear hF hD hO hR;simp only[Act.put,ax,aw,ay]at hK |-;have c0:W.cell? ⟨w.1.size+1,0,none⟩=_:=aj hI.2.1 0;have c1:W.cell? ⟨w.1.size+1,1,none⟩=_:=aj hI.2.1 1;have c2:W.cell? ⟨w.1.size+1,2,none⟩=_:=aj hI.2.1 2;go_simp;refine hK _ _ trivial (by simpa[ar]using hI) (λ_ _=>rfl)
   refine aq.cons (λρ L W hR hI hL hD hO hF K hK=>?_) ?_
   ·clear hF hD hO hR;simp only[Act.put,ax,aw,ay]at hK |-;go_simp;refine hK _ _ trivial (by simpa[ar]using hI) (λ_ _=>rfl)
   refine aq.cons (λρ L W hR hI hL hD hO hF K hK=>?_) ?_
   ·have f1:=ag hF (j:=1) (by decide);clear hF hD hO hR;simp only[Act.put,ax,aw,ay]at hK |-;have e1:ρ 1=Yh Yn ((m:Int)+1):=f1;rw[e1]at hK |-;go_simp;refine hK _ _ trivial (by simpa[ar]using hI) (λ_ _=>rfl)
   refine aq.cons (λρ L W hR hI hL hD hO hF K hK=>?_) ?_
   ·clear hF hD hO hR;simp only[Act.put,ax,aw,ay]at hK |-;go_simp;refine hK _ _ trivial (by simpa[ar]using hI) (λ_ _=>rfl)
   refine aq.cons (λρ L W hR hI hL hD hO hF K hK=>?_) ?_
   ·have f3:=ag hF (j:=3) (by decide);clear hF hD hO hR;simp only[Act.put,ax,aw,ay]at hK |-;have e3:ρ 3=Yl (some ⟨w.1.size+1,1,none⟩):=f3;rw[e3]at hK |-;have c1:W.cell? ⟨w.1.size+1,1,none⟩=_:=aj hI.2.1 1;go_simp;refine hK _ _ trivial (by simpa[ar]using hI) (λ_ _=>rfl)
   refine aq.cons (λρ L W hR hI hL hD hO hF K hK=>?_) ?_
   ·have f4:=ag hF (j:=4) (by decide);clear hF hD hO hR;simp only[Act.put,ax,aw,ay]at hK |-;have e4:ρ 4=Yi y:=f4;rw[e4]at hK |-;go_simp;go_at_call 149;refine(bt.out _).mono ?_;rintro e W2 ⟨rfl,rfl⟩;exact hK _ _ trivial (by simpa[ar]using hI) (λ_ _=>rfl)
   refine aq.cons (λρ L W hR hI hL hD hO hF K hK=>?_) ?_
   ·have f0:=ag hF (j:=0) (by decide);clear hF hD hO hR;simp only[Act.put]at hK |-;have e0:ρ 0=.agg #[Yh Yn 3,Yi y,Yh Yn 0]:=f0;rw[e0]at hK |-;have hlt:=ae hI.2.2;haveI:af w.1.size W:=af.of hlt;have hbb:W.1[w.1.size]?=some (Yo #[if L 6=true then Yh Yn 3 else Yh Yn 0,if L 6=true then Yi y else Yi ⟨#[]⟩,Yh Yn 0] 36 (0,0)):=hI.2.2;rw[hL]at hbb;have c0:W.cell? ⟨w.1.size,0,none⟩=_:=aj hbb 0;have c1:W.cell? ⟨w.1.size,1,none⟩=_:=aj hbb 1;have c2:W.cell? ⟨w.1.size,2,none⟩=_:=aj hbb 2;have p0:=bz hbb 0;have p1:=bz hbb 1;have p2:=bz hbb 2;go_simp;refine hK undef _ trivial ⟨((hI.1.setCell (p:=⟨w.1.size,0,none⟩) (Nat.le_refl _) _).setCell (p:=⟨w.1.size,1,none⟩) (Nat.le_refl _) _).setCell (p:=⟨w.1.size,2,none⟩) (Nat.le_refl _) _,?_,?_⟩ (λ_ _=>trivial)
    ·rw[heap_setCell_other _ _ _ _ (by simp),heap_setCell_other _ _ _ _ (by simp),heap_setCell_other _ _ _ _ (by simp)];exact hI.2.1
    simp only[ar,if_true];exact heap_setCell_same _ _ 2 _ _ _ (heap_setCell_same _ _ 1 _ _ _ (heap_setCell_same _ _ 0 _ _ _ hbb))
   refine aq.cons (λρ L W hR hI hL hD hO hF K hK=>?_) ?_
   ·have f2:=ag hF (j:=2) (by decide);clear hF hD hO hR;simp only[Act.put,ax,aw,ay]at hK |-;have e2:ρ 2=Yh Yn ((m:Int)+1+1):=f2;rw[e2]at hK |-;go_simp;refine hK _ _ trivial (by simpa[ar]using hI) (λ_ _=>rfl)
   refine aq.cons (λρ L W hR hI hL hD hO hF K hK=>?_) ?_
   ·have f5:=ag hF (j:=5) (by decide);clear hF hD hO hR;simp only[Act.put,ax,aw,ay]at hK |-;have e5:ρ 5=Yk vb:=f5;rw[e5]at hK |-;go_simp;refine hK _ _ trivial (by simpa[ar]using hI) (λ_ _=>rfl)
   exact aq.nil
  intro ρ L W hR hI hL hF;obtain⟨_,_,_,_,_,_,_,g7,g8,_⟩:=hF;have g7:ρ 7=Yh Yn ((m:Int)+1+1):=g7;have g8:ρ 8=Yk vb:=g8;rw[g7,g8];clear g7 g8 hR;have hbb:=hI.2.2;rw[hL 6 (by decide)]at hbb;simp only[if_true]at hbb;have c0:W.cell? ⟨w.1.size,0,none⟩=_:=aj hbb 0;have c1:W.cell? ⟨w.1.size,1,none⟩=_:=aj hbb 1;have c2:W.cell? ⟨w.1.size,2,none⟩=_:=aj hbb 2;have HU:=aa hI.1;clear hI hL hbb;go_wp2;refine bodyPost_ret (v:=Ym #[.agg #[Yh Yn 3,Yi y,Yh Yn 0],Yh Yn ((m:Int)+1+1),Yk vb]) (by simp[results,Tryz.results166,go_sem,c0,c1,c2]) rfl ?_;cases vb
  ·exact nB HT.out HU.out
  exact qH HT.out rfl (by omega) HU.out
 rw[decide_eq_false b1]at hp;have HP:=aa hp
 by_cases b2:x.1.1.getLast?=some 47
 ·have hx1:1<=x.size:=by
   rw[<-St.aC];cases hq:x.1.1 with
   | nil=>rw[hq]at b2;cases b2
   | cons c r=>simp
  obtain⟨y,hY⟩:∃y,x.extract 0 (x.size-1)=y:=⟨_,rfl⟩;have iR:y.1.1=x.1.1.dropLast:=by rw[<-hY,Lib.extract_data,List.dropLast_eq_take,St.aC];simp
  have hys:y.size<=x.size:=by rw[<-hY];simp
  have hI:St.eU x.1.1=if St.aN y.1.1 then some (4,y.1.1)else none:=by
   unfold St.eU;rw[if_neg b1,if_pos b2,iR]
  rw[hI]at hT;have be:=λW=>pn y W (by omega)
  rw[decide_eq_true b2]at Au;have P9:=aa Au;have y1:(x.size:Int)-1=((x.size-1:Nat):Int):=by omega
  have y2:(1:Int)<=(x.size:Int):=by omega
  have y3:(0:Int)<=(x.size:Int)-1:=by omega
  clear hp Au hI b1 b2 iR
  generalize St.aN y.1.1=vb at hT be;have HT:=aa hT;have bt:=aa be;clear hT be;go_enter Tryz.func166,Tryz.ntmps166;go_wp2_with fail;refine(ep.out _).mono ?_;rintro e w' ⟨rfl,rfl⟩;go_wp2_with fail;refine(HP.out _).mono ?_;rintro e w' ⟨rfl,rfl⟩;go_wp2_with fail;refine(P9.out _).mono ?_;rintro e w' ⟨rfl,rfl⟩;go_wp2_with fail;go_region;go_wp2_with fail;refine bU (λ_ _=>True) (λL W=>ac w W/\W.1[w.1.size+1]?=some (Yo #[Yh Yn 4,Yi y,Yh Yn 0] 36 (0,0))/\W.1[w.1.size]?=some (Yo #[if L 6=true then Yh Yn 4 else Yh Yn 0,if L 6=true then Yi y else Yi ⟨#[]⟩,Yh Yn 0] 36 (0,0))) ([λv _=>v=.agg #[Yh Yn 4,Yi y,Yh Yn 0],λv _=>v=Yh Yn ((m:Int)+1),λv _=>v=Yh Yn ((m:Int)+1+1),λv _=>v=Yl (some ⟨w.1.size+1,1,none⟩),λv _=>v=Yi y,λv _=>v=Yk vb,λ_ _=>True,λv _=>v=Yh Yn ((m:Int)+1+1),λv _=>v=Yk vb]) (λ_=>trivial) (λ_ _ _ _ _=>trivial) (by kernel_rfl) (by rfl) (by kernel_rfl) (by kernel_rfl) ?_ ?_ ?_ ?_ ?_;rotate_left 1
  ·intro ρ;simp only[bZ,Act.put,ax,aw,ay,Nat.zero_add,Nat.reduceAdd];exact rfl
  ·exact⟨uZ,bJ _ _ _ (by simp),(gi _ _ _ (by simp)).trans (bJ _ _ _ rfl)⟩
  ·refine aq.cons (λρ L W hR hI hL hD hO hF K hK=>?_) ?_
   ·clear hF hD hO hR;simp only[Act.put,ax,aw,ay]at hK |-;have c0:W.cell? ⟨w.1.size+1,0,none⟩=_:=aj hI.2.1 0;have c1:W.cell? ⟨w.1.size+1,1,none⟩=_:=aj hI.2.1 1;have c2:W.cell? ⟨w.1.size+1,2,none⟩=_:=aj hI.2.1 2;go_simp;refine hK _ _ trivial (by simpa[ar]using hI) (λ_ _=>rfl)
   refine aq.cons (λρ L W hR hI hL hD hO hF K hK=>?_) ?_
   ·clear hF hD hO hR;simp only[Act.put,ax,aw,ay]at hK |-;go_simp;refine hK _ _ trivial (by simpa[ar]using hI) (λ_ _=>rfl)
   refine aq.cons (λρ L W hR hI hL hD hO hF K hK=>?_) ?_
   ·have f1:=ag hF (j:=1) (by decide);clear hF hD hO hR;simp only[Act.put,ax,aw,ay]at hK |-;have e1:ρ 1=Yh Yn ((m:Int)+1):=f1;rw[e1]at hK |-;go_simp;refine hK _ _ trivial (by simpa[ar]using hI) (λ_ _=>rfl)
   refine aq.cons (λρ L W hR hI hL hD hO hF K hK=>?_) ?_
   ·clear hF hD hO hR;simp only[Act.put,ax,aw,ay]at hK |-;go_simp;refine hK _ _ trivial (by simpa[ar]using hI) (λ_ _=>rfl)
   refine aq.cons (λρ L W hR hI hL hD hO hF K hK=>?_) ?_
   ·have f3:=ag hF (j:=3) (by decide);clear hF hD hO hR;simp only[Act.put,ax,aw,ay]at hK |-;have e3:ρ 3=Yl (some ⟨w.1.size+1,1,none⟩):=f3;rw[e3]at hK |-;have c1:W.cell? ⟨w.1.size+1,1,none⟩=_:=aj hI.2.1 1;go_simp;refine hK _ _ trivial (by simpa[ar]using hI) (λ_ _=>rfl)
   refine aq.cons (λρ L W hR hI hL hD hO hF K hK=>?_) ?_
   ·have f4:=ag hF (j:=4) (by decide);clear hF hD hO hR;simp only[Act.put,ax,aw,ay]at hK |-;have e4:ρ 4=Yi y:=f4;rw[e4]at hK |-;go_simp;go_at_call 150;refine(bt.out _).mono ?_;rintro e W2 ⟨rfl,hu⟩;refine hK _ _ trivial ⟨hI.1.trans hu,(hu.below.block _ (ae hI.2.1)).trans hI.2.1,?_⟩ (λ_ _=>rfl);simp only[ar,Nat.reduceEqDiff,if_false];exact(hu.below.block _ (ae hI.2.2)).trans hI.2.2
   refine aq.cons (λρ L W hR hI hL hD hO hF K hK=>?_) ?_
   ·have f0:=ag hF (j:=0) (by decide);clear hF hD hO hR;simp only[Act.put]at hK |-;have e0:ρ 0=.agg #[Yh Yn 4,Yi y,Yh Yn 0]:=f0;rw[e0]at hK |-;have hlt:=ae hI.2.2;haveI:af w.1.size W:=af.of hlt;have hbb:W.1[w.1.size]?=some (Yo #[if L 6=true then Yh Yn 4 else Yh Yn 0,if L 6=true then Yi y else Yi ⟨#[]⟩,Yh Yn 0] 36 (0,0)):=hI.2.2;rw[hL]at hbb;have c0:W.cell? ⟨w.1.size,0,none⟩=_:=aj hbb 0;have c1:W.cell? ⟨w.1.size,1,none⟩=_:=aj hbb 1;have c2:W.cell? ⟨w.1.size,2,none⟩=_:=aj hbb 2;have p0:=bz hbb 0;have p1:=bz hbb 1;have p2:=bz hbb 2;go_simp;refine hK undef _ trivial ⟨((hI.1.setCell (p:=⟨w.1.size,0,none⟩) (Nat.le_refl _) _).setCell (p:=⟨w.1.size,1,none⟩) (Nat.le_refl _) _).setCell (p:=⟨w.1.size,2,none⟩) (Nat.le_refl _) _,?_,?_⟩ (λ_ _=>trivial)
    ·rw[heap_setCell_other _ _ _ _ (by simp),heap_setCell_other _ _ _ _ (by simp),heap_setCell_other _ _ _ _ (by simp)];exact hI.2.1
    simp only[ar,if_true];exact heap_setCell_same _ _ 2 _ _ _ (heap_setCell_same _ _ 1 _ _ _ (heap_setCell_same _ _ 0 _ _ _ hbb))
   refine aq.cons (λρ L W hR hI hL hD hO hF K hK=>?_) ?_
   ·have f2:=ag hF (j:=2) (by decide);clear hF hD hO hR;simp only[Act.put,ax,aw,ay]at hK |-;have e2:ρ 2=Yh Yn ((m:Int)+1+1):=f2;rw[e2]at hK |-;go_simp;refine hK _ _ trivial (by simpa[ar]using hI) (λ_ _=>rfl)
   refine aq.cons (λρ L W hR hI hL hD hO hF K hK=>?_) ?_
   ·have f5:=ag hF (j:=5) (by decide);clear hF hD hO hR;simp only[Act.put,ax,aw,ay]at hK |-;have e5:ρ 5=Yk vb:=f5;rw[e5]at hK |-;go_simp;refine hK _ _ trivial (by simpa[ar]using hI) (λ_ _=>rfl)
   exact aq.nil
  intro ρ L W hR hI hL hF;obtain⟨_,_,_,_,_,_,_,g7,g8,_⟩:=hF;have g7:ρ 7=Yh Yn ((m:Int)+1+1):=g7;have g8:ρ 8=Yk vb:=g8;rw[g7,g8];clear g7 g8 hR;have hbb:=hI.2.2;rw[hL 6 (by decide)]at hbb;simp only[if_true]at hbb;have c0:W.cell? ⟨w.1.size,0,none⟩=_:=aj hbb 0;have c1:W.cell? ⟨w.1.size,1,none⟩=_:=aj hbb 1;have c2:W.cell? ⟨w.1.size,2,none⟩=_:=aj hbb 2;have HU:=aa hI.1;clear hI hL hbb;go_wp2;refine bodyPost_ret (v:=Ym #[.agg #[Yh Yn 4,Yi y,Yh Yn 0],Yh Yn ((m:Int)+1+1),Yk vb]) (by simp[results,Tryz.results166,go_sem,c0,c1,c2]) rfl ?_;cases vb
  ·exact nB HT.out HU.out
  exact qH HT.out rfl (by omega) HU.out
 have hI:St.eU x.1.1=if St.aN x.1.1 then some (2,x.1.1)else none:=by
  unfold St.eU;rw[if_neg b1,if_neg b2]
 rw[hI]at hT;have be:=λW=>pn x W (by omega)
 rw[decide_eq_false b2]at Au;have P9:=aa Au;clear hp Au hI b1 b2
 generalize St.aN x.1.1=vb at hT be;have HT:=aa hT;have bt:=aa be;clear hT be;go_enter Tryz.func166,Tryz.ntmps166;go_wp2_with fail;refine(ep.out _).mono ?_;rintro e w' ⟨rfl,rfl⟩;go_wp2_with fail;refine(HP.out _).mono ?_;rintro e w' ⟨rfl,rfl⟩;go_wp2_with fail;refine(P9.out _).mono ?_;rintro e w' ⟨rfl,rfl⟩;go_wp2_with fail;refine bU (λ_ _=>True) (λL W=>ac w W/\W.1[w.1.size+1]?=some (Yo #[Yh Yn 2,Yi x,Yh Yn 0] 36 (0,0))/\W.1[w.1.size]?=some (Yo #[if L 6=true then Yh Yn 2 else Yh Yn 0,if L 6=true then Yi x else Yi ⟨#[]⟩,Yh Yn 0] 36 (0,0))) ([λv _=>v=.agg #[Yh Yn 2,Yi x,Yh Yn 0],λv _=>v=Yh Yn ((m:Int)+1),λv _=>v=Yh Yn ((m:Int)+1+1),λv _=>v=Yl (some ⟨w.1.size+1,1,none⟩),λv _=>v=Yi x,λv _=>v=Yk vb,λ_ _=>True,λv _=>v=Yh Yn ((m:Int)+1+1),λv _=>v=Yk vb]) (λ_=>trivial) (λ_ _ _ _ _=>trivial) (by kernel_rfl) (by rfl) (by kernel_rfl) (by kernel_rfl) ?_ ?_ ?_ ?_ ?_;rotate_left 1
 ·intro ρ;simp only[bZ,Act.put,ax,aw,ay,Nat.zero_add,Nat.reduceAdd];exact rfl
 ·exact⟨uZ,bJ _ _ _ (by simp),(gi _ _ _ (by simp)).trans (bJ _ _ _ rfl)⟩
 ·refine aq.cons (λρ L W hR hI hL hD hO hF K hK=>?_) ?_
  ·clear hF hD hO hR;simp only[Act.put,ax,aw,ay]at hK |-;have c0:W.cell? ⟨w.1.size+1,0,none⟩=_:=aj hI.2.1 0;have c1:W.cell? ⟨w.1.size+1,1,none⟩=_:=aj hI.2.1 1;have c2:W.cell? ⟨w.1.size+1,2,none⟩=_:=aj hI.2.1 2;go_simp;refine hK _ _ trivial (by simpa[ar]using hI) (λ_ _=>rfl)
  refine aq.cons (λρ L W hR hI hL hD hO hF K hK=>?_) ?_
  ·clear hF hD hO hR;simp only[Act.put,ax,aw,ay]at hK |-;go_simp;refine hK _ _ trivial (by simpa[ar]using hI) (λ_ _=>rfl)
  refine aq.cons (λρ L W hR hI hL hD hO hF K hK=>?_) ?_
  ·have f1:=ag hF (j:=1) (by decide);clear hF hD hO hR;simp only[Act.put,ax,aw,ay]at hK |-;have e1:ρ 1=Yh Yn ((m:Int)+1):=f1;rw[e1]at hK |-;go_simp;refine hK _ _ trivial (by simpa[ar]using hI) (λ_ _=>rfl)
  refine aq.cons (λρ L W hR hI hL hD hO hF K hK=>?_) ?_
  ·clear hF hD hO hR;simp only[Act.put,ax,aw,ay]at hK |-;go_simp;refine hK _ _ trivial (by simpa[ar]using hI) (λ_ _=>rfl)
  refine aq.cons (λρ L W hR hI hL hD hO hF K hK=>?_) ?_
  ·have f3:=ag hF (j:=3) (by decide);clear hF hD hO hR;simp only[Act.put,ax,aw,ay]at hK |-;have e3:ρ 3=Yl (some ⟨w.1.size+1,1,none⟩):=f3;rw[e3]at hK |-;have c1:W.cell? ⟨w.1.size+1,1,none⟩=_:=aj hI.2.1 1;go_simp;refine hK _ _ trivial (by simpa[ar]using hI) (λ_ _=>rfl)
  refine aq.cons (λρ L W hR hI hL hD hO hF K hK=>?_) ?_
  ·have f4:=ag hF (j:=4) (by decide);clear hF hD hO hR;simp only[Act.put,ax,aw,ay]at hK |-;have e4:ρ 4=Yi x:=f4;rw[e4]at hK |-;go_simp;go_at_call 150;refine(bt.out _).mono ?_;rintro e W2 ⟨rfl,hu⟩;refine hK _ _ trivial ⟨hI.1.trans hu,(hu.below.block _ (ae hI.2.1)).trans hI.2.1,?_⟩ (λ_ _=>rfl);simp only[ar,Nat.reduceEqDiff,if_false];exact(hu.below.block _ (ae hI.2.2)).trans hI.2.2
  refine aq.cons (λρ L W hR hI hL hD hO hF K hK=>?_) ?_
  ·have f0:=ag hF (j:=0) (by decide);clear hF hD hO hR;simp only[Act.put]at hK |-;have e0:ρ 0=.agg #[Yh Yn 2,Yi x,Yh Yn 0]:=f0;rw[e0]at hK |-;have hlt:=ae hI.2.2;haveI:af w.1.size W:=af.of hlt;have hbb:W.1[w.1.size]?=some (Yo #[if L 6=true then Yh Yn 2 else Yh Yn 0,if L 6=true then Yi x else Yi ⟨#[]⟩,Yh Yn 0] 36 (0,0)):=hI.2.2;rw[hL]at hbb;have c0:W.cell? ⟨w.1.size,0,none⟩=_:=aj hbb 0;have c1:W.cell? ⟨w.1.size,1,none⟩=_:=aj hbb 1;have c2:W.cell? ⟨w.1.size,2,none⟩=_:=aj hbb 2;have p0:=bz hbb 0;have p1:=bz hbb 1;have p2:=bz hbb 2;go_simp;refine hK undef _ trivial ⟨((hI.1.setCell (p:=⟨w.1.size,0,none⟩) (Nat.le_refl _) _).setCell (p:=⟨w.1.size,1,none⟩) (Nat.le_refl _) _).setCell (p:=⟨w.1.size,2,none⟩) (Nat.le_refl _) _,?_,?_⟩ (λ_ _=>trivial)
   ·rw[heap_setCell_other _ _ _ _ (by simp),heap_setCell_other _ _ _ _ (by simp),heap_setCell_other _ _ _ _ (by simp)];exact hI.2.1
   simp only[ar,if_true];exact heap_setCell_same _ _ 2 _ _ _ (heap_setCell_same _ _ 1 _ _ _ (heap_setCell_same _ _ 0 _ _ _ hbb))
  refine aq.cons (λρ L W hR hI hL hD hO hF K hK=>?_) ?_
  ·have f2:=ag hF (j:=2) (by decide);clear hF hD hO hR;simp only[Act.put,ax,aw,ay]at hK |-;have e2:ρ 2=Yh Yn ((m:Int)+1+1):=f2;rw[e2]at hK |-;go_simp;refine hK _ _ trivial (by simpa[ar]using hI) (λ_ _=>rfl)
  refine aq.cons (λρ L W hR hI hL hD hO hF K hK=>?_) ?_
  ·have f5:=ag hF (j:=5) (by decide);clear hF hD hO hR;simp only[Act.put,ax,aw,ay]at hK |-;have e5:ρ 5=Yk vb:=f5;rw[e5]at hK |-;go_simp;refine hK _ _ trivial (by simpa[ar]using hI) (λ_ _=>rfl)
  exact aq.nil
 intro ρ L W hR hI hL hF;obtain⟨_,_,_,_,_,_,_,g7,g8,_⟩:=hF;have g7:ρ 7=Yh Yn ((m:Int)+1+1):=g7;have g8:ρ 8=Yk vb:=g8;rw[g7,g8];clear g7 g8 hR;have hbb:=hI.2.2;rw[hL 6 (by decide)]at hbb;simp only[if_true]at hbb;have c0:W.cell? ⟨w.1.size,0,none⟩=_:=aj hbb 0;have c1:W.cell? ⟨w.1.size,1,none⟩=_:=aj hbb 1;have c2:W.cell? ⟨w.1.size,2,none⟩=_:=aj hbb 2;have HU:=aa hI.1;clear hI hL hbb;go_wp2;refine bodyPost_ret (v:=Ym #[.agg #[Yh Yn 2,Yi x,Yh Yn 0],Yh Yn ((m:Int)+1+1),Yk vb]) (by simp[results,Tryz.results166,go_sem,c0,c1,c2]) rfl ?_;cases vb
 ·exact nB HT.out HU.out
 exact qH HT.out rfl (by omega) HU.out
end Go.Proofs.YthoemdibbldndaaGreatDoor
namespace Go.Proofs.YthoemdibbldndaaGreatDoor.St
theorem vC:∀ {s sub:List UInt8} {i:Nat},Lib.index s sub=(i:Int)->Lib.occAt s sub i=true/\(∀j,j<i->Lib.occAt s sub j=false)/\i<=s.length
 | [],sub,i,h=>by
  unfold Lib.index at h
  split at h
  ·rename_i h0
   obtain rfl:i=0:=by omega
   refine⟨?_,λj hj=>absurd hj (Nat.not_lt_zero _),Nat.le_refl _⟩;cases sub with
   | nil=>rfl
   | cons a t=>cases h0
  omega
 | b :: l,sub,i,h=>by
  unfold Lib.index at h
  split at h
  ·rename_i h0
   obtain rfl:i=0:=by omega
   exact⟨by simpa[Lib.occAt]using h0,λj hj=>absurd hj (Nat.not_lt_zero _),Nat.zero_le _⟩
  rename_i h0
  split at h
  ·omega
  rename_i h1
  have hge:=Lib.index_ge l sub;have hne:Lib.index l sub≠-1:=by simpa using h1
  obtain⟨k,rfl⟩:∃k,i=k+1:=⟨i-1,by omega⟩;obtain⟨g1,g2,g3⟩:=vC (s:=l) (sub:=sub) (i:=k) (by omega);refine⟨by simpa[Lib.occAt]using g1,λj hj=>?_,by simpa using g3⟩;cases j with
  | zero=>exact Bool.eq_false_iff.2 (by simpa[Lib.occAt]using h0)
  | succ j=>simpa[Lib.occAt]using g2 j (by omega)
theorem index_room{s sub:List UInt8}{i:Nat}(h:Lib.index s sub=(i:Int))(h0:sub≠[]):i+sub.length<=s.length:=by
 have h1:=(vC h).1;unfold Lib.occAt at h1;have h2:=(List.isPrefixOf_iff_prefix.1 h1).length_le;rw[List.length_drop]at h2;have h3:0<sub.length:=List.length_pos_iff.2 h0;omega
def dF(l:List UInt8):Option (Nat × List UInt8):=
 if l.head?≠some 60 then some (1,[])else
 if([60,33,45,45]:List UInt8).isPrefixOf l then(if Lib.index (l.drop 4) [45,45,62]<0 then none else some ((Lib.index (l.drop 4) [45,45,62]).toNat+7,[]))else
 match fW l with
 | none=>none
 | some (k,t,n)=>if bC (nameOf t)then(if k=2 then some (n,nameOf t)else none)else some (n,[])
def dn(b:List UInt8):List UInt8:=[60,47]++b++[62]
def ez(dE:List UInt8->Nat × Int)(dig:Nat->List UInt8)(d:List UInt8):Nat->Nat->Nat->PS->Except (Nat × Int) PS
 | 0,_,_,s=>.ok s
 | fuel+1,a,r,s=>
  if d.length<=a then .ok s else
  match dF (d.drop a)with
  | none=>.error (a,2)
  | some (n,b)=>
   if b=[]then ez dE dig d fuel (a+n) r s else
   let j:=Lib.index (d.drop (a+n)) (dn b)
   if j<0 then(if(dE (d.drop (a+n))).2≠0 then .error (a+n+(dE (d.drop (a+n))).1,(dE (d.drop (a+n))).2)else .error (d.length,2))else
   if(dE (a6 d (a+n) (a+n+j.toNat))).2≠0 then .error (a+n+(dE (a6 d (a+n) (a+n+j.toNat))).1,(dE (a6 d (a+n) (a+n+j.toNat))).2)else
   ez dE dig d fuel (a+n+j.toNat+(b.length+3)) (r+1) (bi d s (a+n) (a+n+j.toNat) (dig (r+1)))
def ij(dE:List UInt8->Nat × Int)(dig:Nat->List UInt8)(d:List UInt8):List Pt × Nat × Int:=
 if 65536<d.length then([],0,3)else
 match ez dE dig d (d.length+1) 0 0 ([],0)with
 | .error (a,e)=>([],a,e)
 | .ok s=>(cI d s,0,0)
def jT(d:List UInt8):Except (Nat × Int) PS->List Pt × Nat × Int
 | .error (a,e)=>([],a,e)
 | .ok s=>(cI d s,0,0)
theorem qi{dE:List UInt8->Nat × Int}{dig:Nat->List UInt8}{d:List UInt8}(h:¬65536<d.length):ij dE dig d=jT d (ez dE dig d (d.length+1) 0 0 ([],0)):=by
 rw[ij,if_neg h];cases ez dE dig d (d.length+1) 0 0 ([],0)<;>rfl
section
variable {dE:List UInt8->Nat × Int} {dig:Nat->List UInt8} {d:List UInt8} {fuel a r n:Nat} {b:List UInt8} {s:PS}
theorem iV(h:d.length<=a):ez dE dig d fuel a r s=.ok s:=by
 cases fuel with
 | zero=>rfl
 | succ f=>rw[ez,if_pos h]
theorem oz(h:¬d.length<=a)(h1:dF (d.drop a)=none):ez dE dig d (fuel+1) a r s=.error (a,2):=by rw[ez,if_neg h,h1]
theorem jq(h:¬d.length<=a)(h1:dF (d.drop a)=some (n,[])):ez dE dig d (fuel+1) a r s=ez dE dig d fuel (a+n) r s:=by rw[ez,if_neg h,h1];simp only[if_true]
theorem mZ(h:¬d.length<=a)(h1:dF (d.drop a)=some (n,b))(hb:b≠[])(hj:Lib.index (d.drop (a+n)) (dn b)<0)(he:(dE (d.drop (a+n))).2=0):ez dE dig d (fuel+1) a r s=.error (d.length,2):=by
 rw[ez,if_neg h,h1];simp only;rw[if_neg hb,if_pos hj,if_neg (by rw[he];decide)]
theorem lM(h:¬d.length<=a)(h1:dF (d.drop a)=some (n,b))(hb:b≠[])(hj:Lib.index (d.drop (a+n)) (dn b)<0)(he:(dE (d.drop (a+n))).2≠0):ez dE dig d (fuel+1) a r s=.error (a+n+(dE (d.drop (a+n))).1,(dE (d.drop (a+n))).2):=by
 rw[ez,if_neg h,h1];simp only;rw[if_neg hb,if_pos hj,if_pos he]
theorem oA{j:Nat}(h:¬d.length<=a)(h1:dF (d.drop a)=some (n,b))(hb:b≠[])(hj:Lib.index (d.drop (a+n)) (dn b)=(j:Int))(he:(dE (a6 d (a+n) (a+n+j))).2≠0):ez dE dig d (fuel+1) a r s=.error (a+n+(dE (a6 d (a+n) (a+n+j))).1,(dE (a6 d (a+n) (a+n+j))).2):=by
 rw[ez,if_neg h,h1];simp only;rw[if_neg hb,hj,if_neg (by omega),Int.toNat_natCast,if_pos he]
theorem lx{j:Nat}(h:¬d.length<=a)(h1:dF (d.drop a)=some (n,b))(hb:b≠[])(hj:Lib.index (d.drop (a+n)) (dn b)=(j:Int))(he:(dE (a6 d (a+n) (a+n+j))).2=0) :
  ez dE dig d (fuel+1) a r s=ez dE dig d fuel (a+n+j+(b.length+3)) (r+1) (bi d s (a+n) (a+n+j) (dig (r+1))):=by
 rw[ez,if_neg h,h1];simp only;rw[if_neg hb,hj,if_neg (by omega),Int.toNat_natCast,if_neg (by rw[he];decide)]
end
theorem wS{l:List UInt8}(h:([60,33,45,45]:List UInt8).isPrefixOf l=true):fW l=none:=by
 obtain⟨r,rfl⟩:=List.isPrefixOf_iff_prefix.1 h
 have e:di ([60,33,45,45]++r)=33 :: 45 :: 45 :: r.takeWhile (λc=>decide (c.toNat≠62)):=by
  unfold di
  show((33:UInt8) :: 45 :: 45 :: r).takeWhile _=_
  rw[List.takeWhile_cons_of_pos (by decide),List.takeWhile_cons_of_pos (by decide),List.takeWhile_cons_of_pos (by decide)]
 have hnc:∀t:List UInt8,t.head?=some 33->aN t=false:=by
  intro t ht;rw[Bool.eq_false_iff];intro hc;have hn:=(lY hc).2.2.2;cases t with
  | nil=>cases ht
  | cons c r=>
   simp at ht;subst ht;have:nameOf (33 :: r)=33 :: nameOf r:=by unfold nameOf;rw[List.takeWhile_cons_of_pos (by decide)]
   rw[this,aE]at hn;simp[ls]at hn
 unfold fW;rw[e]
 split
 ·unfold eU;have h2:aN (List.dropLast (33 :: 45 :: 45 :: r.takeWhile (λc=>decide (c.toNat≠62))))=false:=hnc _ (by simp);have h1:aN (33 :: 45 :: 45 :: r.takeWhile (λc=>decide (c.toNat≠62)))=false:=hnc _ rfl;rw[if_neg (by simp),h2,h1]
  split<;>simp
 rfl
theorem rl{l:List UInt8}(h:l.head?≠some 60):dF l=some (1,[]):=by unfold dF;rw[if_pos h]
theorem na{l:List UInt8}(h:l.head?=some 60)(h2:([60,33,45,45]:List UInt8).isPrefixOf l=false):dF l=match fW l with
 | none=>none
 | some (k,t,n)=>if bC (nameOf t)then(if k=2 then some (n,nameOf t)else none)else some (n,[]):=by
 unfold dF;rw[if_neg (by simp[h]),h2];rfl
theorem r7{l:List UInt8}(h2:([60,33,45,45]:List UInt8).isPrefixOf l=true):dF l=if Lib.index (l.drop 4) [45,45,62]<0 then none else some ((Lib.index (l.drop 4) [45,45,62]).toNat+7,[]):=by
 have h:l.head?=some 60:=by
  obtain⟨r,rfl⟩:=List.isPrefixOf_iff_prefix.1 h2;rfl
 unfold dF;rw[if_neg (by simp[h]),if_pos h2]
theorem tj{t:List UInt8}(h:bC t=true):t≠[]/\t.length<=5:=by
 unfold bC at h;rw[decide_eq_true_eq]at h;rcases h with rfl|rfl|rfl|rfl|rfl<;>simp
theorem r8{l:List UInt8}{n:Nat}{b:List UInt8}(h:dF l=some (n,b))(h0:l≠[]):1<=n/\n<=l.length/\b.length<=5/\(b≠[]->bC b=true):=by
 by_cases lI:l.head?=some 60
 ·cases hc:([60,33,45,45]:List UInt8).isPrefixOf l
  ·rw[na lI hc]at h;cases hq:fW l with
   | none=>rw[hq]at h;cases h
   | some x=>
    obtain⟨k,t,m⟩:=x;have hl:=kN hq;rw[hq]at h;simp only at h
    split at h
    ·rename_i hb
     split at h
     ·simp only[Option.some.injEq,Prod.mk.injEq]at h;obtain⟨rfl,rfl⟩:=h;exact⟨by omega,hl.2.2.1,(tj hb).2,λ_=>hb⟩
     cases h
    simp only[Option.some.injEq,Prod.mk.injEq]at h;obtain⟨rfl,rfl⟩:=h;exact⟨by omega,hl.2.2.1,by simp,λe=>absurd rfl e⟩
  rw[r7 hc]at h
  split at h
  ·cases h
  rename_i hi
  simp only[Option.some.injEq,Prod.mk.injEq]at h;obtain⟨rfl,rfl⟩:=h;have hp:=(List.isPrefixOf_iff_prefix.1 hc).length_le
  have hb:(Lib.index (l.drop 4) [45,45,62]).toNat+3<=(l.drop 4).length:=by
   obtain⟨i,hi2⟩:∃i:Nat,Lib.index (l.drop 4) [45,45,62]=(i:Int):=⟨_,(Int.toNat_of_nonneg (by omega)).symm⟩;rw[hi2];exact index_room hi2 (by simp)
  rw[List.length_drop]at hb;simp at hp;exact⟨by omega,by omega,by simp,λe=>absurd rfl e⟩
 rw[rl lI]at h;simp only[Option.some.injEq,Prod.mk.injEq]at h;obtain⟨rfl,rfl⟩:=h;exact⟨by omega,List.length_pos_iff.2 h0,by simp,λe=>absurd rfl e⟩
end Go.Proofs.YthoemdibbldndaaGreatDoor.St
namespace Go.Proofs.YthoemdibbldndaaGreatDoor.Mk
open Go.RowKit
section
def Cf(R:Option (Nat × List UInt8))(w:Ys)(e:Ending)(w':Ys):Prop:=ac w w'/\match R with
 | some (n,b)=>e=Yp (Ym #[Yh Yn n,Yi ⟨b.toArray⟩,Yk true])
 | none=>∃(m:Int) (x:ByteArray),e=Yp (Ym #[Yh Yn m,Yi x,Yk false])
theorem nx{R:Option (Nat × List UInt8)}{w w':Ys}{n:Nat}{b:List UInt8}{x:ByteArray}{m:Int}(hR:R=some (n,b))(hx:x.1.1=b)(hm:m=n)(hu:ac w w'):Cf R w (Yp (Ym #[Yh Yn m,Yi x,Yk true])) w':=by
 subst hm hx hR;exact⟨hu,by simp only[bn]⟩
theorem qE{R:Option (Nat × List UInt8)}{w w':Ys}{x:ByteArray}{m:Int}(hR:R=none)(hu:ac w w'):Cf R w (Yp (Ym #[Yh Yn m,Yi x,Yk false])) w':=by
 subst hR;exact⟨hu,_,_,rfl⟩
theorem Ey(s:ByteArray)(m:Int)(w:Ys)(hm:w.cell? ⟨0,0,none⟩=some (Yh Yn m))(hs:s.size<=65536)(h0:0<s.size) :
  Calls Tryz.prog 122 #[Yi s] w (Cf (St.dF s.1.1) w):=by
 have hcr:s.1.1=s[0] :: s.1.1.drop 1:=St.fB s h0;have hlen:=St.aC s
 by_cases gY:s[0].toNat=60
 rotate_left 1
 ·have f60:((s[0].toNat:Int) != 60)=true:=by simp;omega
  have HR:=aa (St.rl (l:=s.1.1) (by rw[hcr];simp;intro e;exact gY (by rw[e];rfl)));clear hcr hlen hm;go_enter Tryz.func122,Tryz.ntmps122;go_wp2;go_ret3;exact nx HR.out rfl rfl (uZ)
 have f60:((s[0].toNat:Int) != 60)=false:=by simp;omega
 have mK:s.1.1.head?=some 60:=by rw[hcr];simp;exact UInt8.toNat_inj.1 gY
 have hpre:=λW=>jm s ⟨#[60,33,45,45]⟩ W (by omega) (by show 4<=_;omega)
 cases hp:preB ⟨#[60,33,45,45]⟩ s with
 | true=>
  rw[hp]at hpre;have hp':([60,33,45,45]:List UInt8).isPrefixOf s.1.1=true:=hp;have h4:4<=s.size:=by have:=(List.isPrefixOf_iff_prefix.1 hp').length_le;simpa using this
  have z4:(4:Int)<=(s.size:Int):=by omega
  obtain⟨x,hx⟩:∃x,s.extract 4 s.size=x:=⟨_,rfl⟩;have hxl:x.1.1=s.1.1.drop 4:=by rw[<-hx,Lib.extract_data,List.take_of_length_le (by simp)]
  have hxs:x.size=s.size-4:=by rw[<-hx];simp
  have hR:=St.r7 hp';rw[<-hxl]at hR;have bP:=λW (hW:W.cell? ⟨0,0,none⟩=some (Yh Yn m))=>Tryz.strings_Index x ⟨#[45,45,62]⟩ m W (by omega) hW
  have hge:=Lib.index_ge x.1.1 [45,45,62]
  have hle:Lib.index x.1.1 [45,45,62]<=65536:=by
   by_cases hn:Lib.index x.1.1 [45,45,62]<0
   ·omega
   obtain⟨i,hi⟩:∃i:Nat,Lib.index x.1.1 [45,45,62]=(i:Int):=⟨_,(Int.toNat_of_nonneg (by omega)).symm⟩;have:=(St.vC hi).2.2
   rw[St.aC]at this;omega
  have hq:Lib.index x.1.1 (⟨#[45,45,62]⟩:ByteArray).1.1=Lib.index x.1.1 [45,45,62]:=rfl;simp only[hq]at bP;clear hq;generalize Lib.index x.1.1 [45,45,62]=z at hR bP hge hle;have wI:=aa hpre;have ep:=aa bP;have HM:=aa hm;clear hpre bP hm hp hp' hcr mK hxl hlen
  by_cases hz:z<0
  ·have z1:¬(0:Int)<=z:=by omega
   rw[if_pos hz]at hR;have HR:=aa hR;clear hR;go_enter Tryz.func122,Tryz.ntmps122;go_wp2_with fail;refine(wI.out _).mono ?_;rintro e w2 ⟨rfl,rfl⟩;go_wp2_with fail;refine(ep.out _ ?_).mono ?_
   ·first|exact HM.out|(simp;exact HM.out)
   rintro e w2 ⟨rfl,rfl⟩;go_wp2;go_ret3;simp only[show(decide ((0:Int)<=z))=false from decide_eq_false (by omega)];refine qE HR.out ?_;exact uZ
  have z1:(0:Int)<=z:=by omega
  rw[if_neg hz]at hR;have HR:=aa hR;clear hR;go_enter Tryz.func122,Tryz.ntmps122;go_wp2_with fail;refine(wI.out _).mono ?_;rintro e w2 ⟨rfl,rfl⟩;go_wp2_with fail;refine(ep.out _ ?_).mono ?_
  ·first|exact HM.out|(simp;exact HM.out)
  rintro e w2 ⟨rfl,rfl⟩;go_wp2;go_ret3;simp only[show(decide ((0:Int)<=z))=true from decide_eq_true z1];refine nx HR.out rfl (by omega) ?_;exact uZ
 | false=>
  rw[hp]at hpre;have hp':([60,33,45,45]:List UInt8).isPrefixOf s.1.1=false:=hp;have hR:=St.na mK hp';have cC:=λW=>Dn s W (by omega) h0 gY
  have wI:=aa hpre;cases hq:St.fW s.1.1 with
  | none=>
   rw[hq]at hR cC;have HR:=aa hR;have dR:=aa cC;clear hR cC hq hpre hp hp' hcr mK hlen hm;go_enter Tryz.func122,Tryz.ntmps122;go_wp2_with fail;refine(wI.out _).mono ?_;rintro e w2 ⟨rfl,rfl⟩;go_wp2_with fail;refine(dR.out _).mono ?_;rintro e w3 ⟨hu,k,x,q,rfl⟩;have HU:=aa hu;clear hu;go_wp2;go_ret3;exact qE HR.out (HU.out.trans (uZ))
  | some q=>
   obtain⟨k,t,n⟩:=q
   have htl:t.length<=4611686018427387904:=by
    have:=St.kN hq
    rw[St.aC]at this;omega
   rw[hq]at hR cC;simp only at hR;obtain⟨tb,fx⟩:∃tb:ByteArray,(⟨t.toArray⟩:ByteArray)=tb:=⟨_,rfl⟩;obtain⟨nb,hnb⟩:∃nb:ByteArray,(⟨(St.nameOf t).toArray⟩:ByteArray)=nb:=⟨_,rfl⟩;have be:=λW=>p8 t W htl
   have pc:nb.1.1=St.nameOf t:=by rw[<-hnb]
   have hbk:=λW=>ms nb W
   rw[pc]at hbk;have nW:∀W,Calls Tryz.prog 166 #[Yi s] W λe w'=>ac W w'/\e=Yp (Ym #[.agg #[Yh Yn k,Yi ⟨t.toArray⟩,Yh Yn 0],Yh Yn n,Yk true]):=cC
   rw[fx]at nW;rw[fx,hnb]at be;have bt:=aa be;have dR:=aa nW;cases hb:St.bC (St.nameOf t)with
   | false=>
    rw[hb]at hR hbk;have jK:=aa hbk;have HR:=aa (show St.dF s.1.1=some (n,[])from hR);clear hR cC nW hq hpre hp hp' hcr mK hlen hm be hbk hb fx hnb pc;go_enter Tryz.func122,Tryz.ntmps122;go_wp2_with fail;refine(wI.out _).mono ?_;rintro e w2 ⟨rfl,rfl⟩;go_wp2_with fail;refine(dR.out _).mono ?_;rintro e w3 ⟨hu,rfl⟩;have HU:=aa hu;clear hu;go_wp2_with fail;refine(bt.out _).mono ?_;rintro e w4 ⟨rfl,hu⟩;have aX:=aa ((HU.out.alloc _).trans hu);clear hu;go_wp2_with fail;refine(jK.out _).mono ?_;rintro e w5 ⟨rfl,rfl⟩;go_wp2;go_ret3;exact nx HR.out rfl rfl (aX.out.trans (uZ))
   | true=>
    rw[hb]at hR hbk;have jK:=aa hbk;have HR:=aa (show St.dF s.1.1=if k=2 then some (n,St.nameOf t)else none from hR);have EU:=aa pc;clear hR cC nW hq hpre hp hp' hcr mK hlen hm be hbk hb fx hnb pc;go_enter Tryz.func122,Tryz.ntmps122;go_wp2_with fail;refine(wI.out _).mono ?_;rintro e w2 ⟨rfl,rfl⟩;go_wp2_with fail;refine(dR.out _).mono ?_;rintro e w3 ⟨hu,rfl⟩;have HU:=aa hu;clear hu;go_wp2_with fail;refine(bt.out _).mono ?_;rintro e w4 ⟨rfl,hu⟩;have cZ:=(hu.below.block w3.1.size (by simp)).trans (bJ w3 (Yo #[Yh Yn k,Yi tb,Yh Yn 0] 36) w3.1.size rfl);have x0:w4.cell? ⟨w3.1.size,0,none⟩=some (Yh Yn k):=aj cZ 0;have x1:w4.cell? ⟨w3.1.size,1,none⟩=some (Yi tb):=aj cZ 1;haveI:af w3.1.size w4:=af.of (ae cZ);have aX:=aa ((HU.out.alloc _).trans hu);clear hu cZ;go_wp2_with fail;refine(jK.out _).mono ?_;rintro e w5 ⟨rfl,rfl⟩;go_wp2_with fail
    first|refine aP (by kernel_rfl) (by kernel_rfl) ?_|refine aS (by kernel_rfl) (by kernel_rfl) ?_
    repeat (go_big_quiet_step (first|(go_at_call 129;exact Calls.eE (bt.out _))))
    refine wpQuiet_nil ?_;rintro _ ⟨X,rfl⟩;have a7:=aa (aX.out.trans (show ac w4 _ from uZ))
    by_cases hk:k=2
    ·subst hk;have lD:=aa (HR.out.trans (if_pos rfl));clear HR;go_wp2;go_ret3;exact nx lD.out EU.out rfl (a7.out.trans (uZ))
    have hkb:(k==2)=false:=by simpa using hk
    have lD:=aa (HR.out.trans (if_neg hk));clear HR;go_wp2;go_ret3;simp only[hkb];exact qE lD.out (a7.out.trans (uZ))
end
section
section
variable {w W w4:Ys} {B b:Nat} {v0 v1 v2 v v':Value} {ah op cK:List St.It} {tx:List UInt8} {cuts:List Nat} {c c':Nat}
theorem BV.Vn(h:BV ⟨v,op,c⟩ w B b v0 v1 v2 ah tx cuts)(ho:w.ownsRow B 36 3 v' cK.length (ak cK))(hd:v'.ownBlock=v.ownBlock):BV ⟨v',cK,c⟩ (w.setCell ⟨b,3,none⟩ v') B b v0 v1 v2 ah tx cuts:=by
 obtain⟨h0,h1,h2,h3,h4,h5,h6⟩:=h;exact⟨h0,heap_setCell_same w b 3 _ _ v' h1,aD h2 (aT h2 h1 (by decide)),aD h3 (aT h3 h1 (by decide)),aD h4 (aT h4 h1 (by decide)),aD ho (aT ho h1 (by decide)),by unfold zh at h6 |-;rw[hd];exact h6⟩
theorem BV.RT(h:BV ⟨v,op,c⟩ w B b v0 v1 v2 ah tx cuts)(m:Int)(hm:m=(c':Int)):BV ⟨v,op,c'⟩ (w.setCell ⟨b,4,none⟩ (Yh Yn m)) B b v0 v1 v2 ah tx cuts:=by
 subst hm;obtain⟨h0,h1,h2,h3,h4,h5,h6⟩:=h;exact⟨h0,heap_setCell_same w b 4 _ _ _ h1,aD h2 (aT h2 h1 (by decide)),aD h3 (aT h3 h1 (by decide)),aD h4 (aT h4 h1 (by decide)),aD h5 (aT h5 h1 (by decide)),h6⟩
theorem BV.SY(h:BV ⟨v,op,c⟩ w B b v0 v1 v2 ah tx cuts)(hg:w.grownBy w4 v.ownBlock)(hw:w.1.size<=W.1.size)(hf:pB W v v')(ho:w4.ownsRow B 36 3 v' cK.length (ak cK)):BV ⟨v',cK,c⟩ (w4.setCell ⟨b,3,none⟩ v') B b v0 v1 v2 ah tx cuts:=by
 obtain⟨h0,h1,h2,h3,h4,h5,h6⟩:=h;have hb4:w4.1[b]?=some (Yo ⟨v0 :: v1 :: v2 :: Mo.l ⟨v,op,c⟩⟩ ig (0,0)):=(hg.block b (ae h1) (λe=>aT h5 h1 (by decide) e.symm)).trans h1;exact⟨h0,heap_setCell_same w4 b 3 _ _ v' hb4,aD (h2.kept hg h6) (aT h2 h1 (by decide)),aD (h3.kept hg (da h3 h5 (by decide))) (aT h3 h1 (by decide)),aD (h4.kept hg (da h4 h5 (by decide))) (aT h4 h1 (by decide)),aD ho (aT ho hb4 (by decide)),vp (zS h2 hw (vp h6) hf)⟩
theorem BV.at(h:BV ⟨v,op,c⟩ w B b v0 v1 v2 ah tx cuts):w.cell? ⟨b,3,none⟩=some v/\w.cell? ⟨b,4,none⟩=some (Yh Yn (c:Int))/\w.frozen? ⟨b,3,none⟩=false/\w.frozen? ⟨b,4,none⟩=false/\b<w.1.size/\B<=b:=by
 have hb:=h.2.1;exact⟨aj hb 3,aj hb 4,bz hb 3,bz hb 4,ae hb,h.1⟩
end
def pM(mo:Mo)(w:Ys)(B b:Nat)(ah:List St.It)(tx:List UInt8)(cuts:List Nat)(k:Int)(t:List UInt8)(off:Nat)(e:Ending)(w':Ys):Prop:=
 Below B w w'/\match St.stepT mo.op mo.c k t with
  | none=>e=Yp (Yh Yn 7)
  | some (i,cK,c')=>if 512<(St.aL (ah++St.ch tx) (k,t,i)).length\/1024<=cuts.length then e=Yp (Yh Yn 3)else
    e=Yp (Yh Yn 0)/\∃v',b8 ⟨v',cK,c'⟩ w' B b (ah++St.ch tx++[(k,t,i)]) [] (cuts++[off])
section
variable {mo:Mo} {w:Ys} {B b:Nat} {ah:List St.It} {tx:List UInt8} {cuts:List Nat} {k:Int} {t:List UInt8} {off:Nat} {w':Ys} {i:Int} {cK:List St.It} {c':Nat}
theorem xg{f:List St.It}{t:List UInt8}(k:Int)(s:List UInt8)(i:Int)(nc:Nat)(hk:k≠1):(512<(St.aL (f++St.ch t) (k,s,i)).length\/1024<=nc) ↔ St.aU f.length t.length nc false=true:=by
 rw[<-St.j8 (f:=f) (t:=t) k s nc hk]
 have e:(St.aL (f++St.ch t) (k,s,i)).length=(St.aL (f++St.ch t) (k,s,0)).length:=by
  unfold St.aL;rw[if_neg hk,if_neg hk];simp
 rw[e]
theorem Below.ai{B:Nat}{a b c:Ys}(h:Below B a b)(hB:B<=b.1.size)(u:ac b c):Below B a c:=h.trans (u.below.mono hB)
theorem F9(h:St.stepT mo.op mo.c k t=none)(hb:Below B w w'):pM mo w B b ah tx cuts k t off (Yp (Yh Yn 7)) w':=by
 refine⟨hb,?_⟩;rw[h]
theorem ze(h:St.stepT mo.op mo.c k t=some (i,cK,c'))(hk:k≠1)(hf:St.aU ah.length tx.length cuts.length false=true)(hb:Below B w w'):pM mo w B b ah tx cuts k t off (Yp (Yh Yn 3)) w':=by
 refine⟨hb,?_⟩;rw[h];simp only;rw[if_pos ((xg k t i cuts.length hk).2 hf)];trivial
theorem zf(h:St.stepT mo.op mo.c k t=some (i,cK,c'))(hk:k≠1)(hf:St.aU ah.length tx.length cuts.length false=false)(hb:Below B w w'){v':Value}(hB:b8 ⟨v',cK,c'⟩ w' B b (ah++St.ch tx++[(k,t,i)]) [] (cuts++[off])):pM mo w B b ah tx cuts k t off (Yp (Yh Yn 0)) w':=by
 refine⟨hb,?_⟩;rw[h];simp only;rw[if_neg (λh2=>by rw[(xg k t i cuts.length hk).1 h2]at hf;cases hf)];exact⟨trivial,v',hB⟩
end
theorem IC(mo:Mo)(w:Ys)(B b:Nat)(ah:List St.It)(tx:List UInt8)(cuts:List Nat)(k:Int)(x:ByteArray)(off:Nat)(h:b8 mo w B b ah tx cuts)(hk:k=2\/k=3\/k=4)(h1:ah.length<=512)(h2:cuts.length<=1024)(h3:tx.length<=cuts.length)(h4:mo.op.length<=2000)(h5:mo.c<=2000)(h6:aV mo.op<=4611686018427387904)(hBw:B<=w.1.size)
  (hx:x.size<=4611686018427387904) :
  Calls Tryz.prog 198 #[Yl (some ⟨b,0,none⟩),.agg #[Yh Yn k,Yi x,Yh Yn 0],Yh Yn off] w (pM mo w B b ah tx cuts k x.1.1 off):=by
 obtain⟨v,op,c⟩:=mo;simp only at h4 h5 h6;obtain⟨v0,v1,v2,hv⟩:=h;obtain⟨A3,c3,rfl,hc31,hc32⟩:=aJ (show w.ownsRow B 36 3 v op.length (ak op)from hv.2.2.2.2.2.1);obtain⟨g3,g4,f3,f4,hblt,hBb⟩:=hv.at;have g3':w.cell? ⟨b,3,none⟩=some (Yj A3 op.length c3):=g3;clear g3;haveI:af b w:=af.of hblt;have HV:=aa hv;rcases hk with rfl|rfl|rfl
 ·
  have HST:=aa (show St.stepT (⟨Yj A3 op.length c3,op,c⟩:Mo).op c 2 x.1.1=some ((c:Int)+1,op++[(2,x.1.1,(c:Int)+1)],c+1)from rfl);clear hv;obtain⟨i0,hi,hz0,hz1,hz2⟩:=info_parts dH;go_enter Tryz.func198,Tryz.ntmps198;go_wp2_with fail;have mr:ac (w.setCell ⟨b,4,none⟩ (Yh Yn ((c:Int)+1))) ((w.setCell ⟨b,4,none⟩ (Yh Yn ((c:Int)+1))).alloc (Yo #[Yh Yn 2,Yi x,Yh Yn ((c:Int)+1)] 36)):=uZ;have E4:=aa ((BV.RT (c':=c+1) HV.out ((c:Int)+1) (by omega)).ai mr);have qo:=aa (bJ (w.setCell ⟨b,4,none⟩ (Yh Yn ((c:Int)+1))) (Yo #[Yh Yn 2,Yi x,Yh Yn ((c:Int)+1)] 36) w.1.size (by simp));have V8:B<=((w.setCell ⟨b,4,none⟩ (Yh Yn ((c:Int)+1))).alloc (Yo #[Yh Yn 2,Yi x,Yh Yn ((c:Int)+1)] 36)).1.size:=by simp;omega
  have S8:=aa ((((Below.refl B w).setCell (p:=⟨b,4,none⟩) hBb (.int .i64 ((c:Int)+1))).alloc (by simp;omega) (Obj.cells #[.int .i64 2,.string x,.int .i64 ((c:Int)+1)] 36)));clear mr;generalize(w.setCell ⟨b,4,none⟩ (.int .i64 ((c:Int)+1))).alloc (Obj.cells #[.int .i64 2,.string x,.int .i64 ((c:Int)+1)] 36)=W8 at *;obtain⟨q3,_,qf3,_,hlt8,_⟩:=E4.out.at;have q3':W8.cell? ⟨b,3,none⟩=some (.slice A3 op.length c3):=q3;have x0:W8.cell? ⟨w.1.size,0,none⟩=some (.int .i64 2):=aj qo.out 0;have x1:W8.cell? ⟨w.1.size,1,none⟩=some (.string x):=aj qo.out 1;have x2:W8.cell? ⟨w.1.size,2,none⟩=some (.int .i64 ((c:Int)+1)):=aj qo.out 2;haveI:af w.1.size W8:=af.of (ae qo.out);haveI:af b W8:=af.of hlt8;have fo:=aa (show W8.ownsRow B 36 3 (.slice A3 op.length c3) op.length (ak op)from E4.out.2.2.2.2.2.1);clear q3;generalize hno:op.length=no at *;go_region_law (refine jv rfl (.tmp 72) (.tmp 74) 37 rfl B 36 i0 (.agg #[.int .i64 0,.string ⟨#[]⟩,.int .i64 0]) 3 32 Tryz.underlying37 hi hz0 hz1 hz2 rfl (by decide) (.slice A3 no c3) no _ rfl (dV (fo.out.alloc (.cells #[.int .i64 2,.string x,.int .i64 ((c:Int)+1)] 36)) (ac.refl _).drew) ⟨W8.1.size,0,none⟩ 1 1 [.int .i64 2,.string x,.int .i64 ((c:Int)+1)] rfl rfl (dW W8 _ _ _ 36 _ rfl) (cL 2 ((c:Int)+1) _) (by unfold maxLen;omega) (by omega) (by simp;omega) ?_;intro v' w1 hown' hgrow tK;have hgr:=aO (ac.gb (uZ:ac W8 (W8.alloc (.cells #[.int .i64 2,.string x,.int .i64 ((c:Int)+1)] 36)).drew) (Value.slice A3 no c3).ownBlock) hgrow (λg e=>Or.inl e);have hb4:=(hgr.block b hlt8 (λe=>aT fo.out E4.out.2.1 (by decide) e.symm)).trans E4.out.2.1;have e3:w1.cell? ⟨b,3,none⟩=some (.slice A3 no c3):=aj hb4 3;have f3':w1.frozen? ⟨b,3,none⟩=false:=bz hb4 3;haveI:af b w1:=af.of (ae hb4);obtain⟨A',c',rfl,_⟩:=aJ hown')
  all_goals
   have CL:BV ⟨Yj A' (no+1) c',op++[(2,x.1.1,(c:Int)+1)],c+1⟩ (w1.setCell ⟨b,3,none⟩ (Yj A' (no+1) c')) B b v0 v1 v2 ah tx cuts:=by
    refine BV.SY E4.out (by simpa using hgr) (by simp) tK ?_;rw[List.length_append,List.length_singleton,hno,bD];simp only[bn];exact hown'
   have CQ:(w1.setCell ⟨b,3,none⟩ (Yj A' (no+1) c')).1[w.1.size]?=some (Yo #[Yh Yn 2,Yi x,Yh Yn ((c:Int)+1)] 36):=by
    rw[heap_setCell_other _ _ _ _ (by show w.1.size≠b;omega)];refine(hgr.block _ (ae qo.out) (λe=>?_)).trans qo.out;have:=(HV.out.2.2.2.2.2.1.lt w.1.size (by rw[e])).2
    omega
   have vu:Below B w (w1.setCell ⟨b,3,none⟩ (Yj A' (no+1) c')):=dx S8.out V8 hgr (λg hg=>aB fo.out g hg) hBb;have Jz:B<=(w1.setCell ⟨b,3,none⟩ (Yj A' (no+1) c')).1.size:=Nat.le_trans hBw vu.size;have I1:=aa CL;have lR:=aa CQ;have IQ:=aa vu;clear CL CQ vu hgr hgrow hown' hb4 tK e3 f3' E4 qo S8 fo x0 x1 x2 q3' qf3;generalize w1.setCell ⟨b,3,none⟩ (Yj A' (no+1) c')=W9 at *;go_wp2_with fail;have HIT:=aa (lp W9.drew B b ah tx cuts 2 ((c:Int)+1) x off (b8.ai ⟨_,_,_,I1.out⟩ ((ac.refl W9).drew)) (by omega) (by omega) (by omega) Jz);have x0:W9.cell? ⟨w.1.size,0,none⟩=some (Yh Yn 2):=aj lR.out 0;have x1:W9.cell? ⟨w.1.size,1,none⟩=some (Yi x):=aj lR.out 1;have x2:W9.cell? ⟨w.1.size,2,none⟩=some (Yh Yn ((c:Int)+1)):=aj lR.out 2;haveI:af w.1.size W9:=af.of (ae lR.out);refine bU (λ_ _=>True) (λL W=>if L 5=true then(St.aU ah.length tx.length cuts.length false=false->b8 ⟨Yj A' (no+1) c',op++[(2,x.1.1,(c:Int)+1)],c+1⟩ W B b (ah++St.ch tx++[(2,x.1.1,((c:Int)+1))]) [] (cuts++[off]))/\Below B W9.drew W else W=W9.drew) ([λv _=>v=Yl (some ⟨b,0,none⟩),λv _=>v=Yl (some ⟨b,0,none⟩),λv _=>v=Yl (some ⟨b,0,none⟩),λv _=>v=.agg #[Yh Yn 2,Yi x,Yh Yn ((c:Int)+1)],λv _=>v=Yh Yn (off:Int),λv _=>v=Yk (!St.aU ah.length tx.length cuts.length false),λv _=>v=Yh Yn (iu (!St.aU ah.length tx.length cuts.length false)),λv _=>v=Yh Yn (iu (!St.aU ah.length tx.length cuts.length false))]) (λ_=>trivial) (λ_ _ _ _ _=>trivial) (by kernel_rfl) (by rfl) (by kernel_rfl) (by kernel_rfl) ?_ ?_ ?_ ?_ ?_;rotate_left 1
   ·intro ρ;simp only[bZ,Act.put,ax,aw,ay,Nat.zero_add,Nat.reduceAdd];exact rfl
   ·simp
   ·refine aq.cons (λρ L W hR hI hL hD hO hF K hK=>?_) ?_
    ·clear hF hD hO hR;simp only[Act.put,ax,aw,ay]at hK |-;go_simp;refine hK _ _ trivial (by simpa[ar]using hI) (λ_ _=>rfl)
    refine aq.cons (λρ L W hR hI hL hD hO hF K hK=>?_) ?_
    ·have f0:=ag hF (j:=0) (by decide);clear hF hD hO hR;simp only[Act.put,ax,aw,ay]at hK |-;have e0:ρ 0=Yl (some ⟨b,0,none⟩):=f0;rw[e0]at hK |-;go_simp;refine hK _ _ trivial (by simpa[ar]using hI) (λ_ _=>rfl)
    refine aq.cons (λρ L W hR hI hL hD hO hF K hK=>?_) ?_
    ·have f1:=ag hF (j:=1) (by decide);clear hF hD hO hR;simp only[Act.put,ax,aw,ay]at hK |-;have e1:ρ 1=Yl (some ⟨b,0,none⟩):=f1;rw[e1]at hK |-;go_simp;refine hK _ _ trivial (by simpa[ar]using hI) (λ_ _=>rfl)
    refine aq.cons (λρ L W hR hI hL hD hO hF K hK=>?_) ?_
    ·have j9:L 5=false:=hD.not (p:=5) rfl (by decide) hL;rw[if_neg (by rw[j9];decide)]at hI;subst hI;clear hF hD hO hR;simp only[Act.put,ax,aw,ay]at hK |-;go_simp;refine hK _ _ trivial (by simp[ar,j9]) (λ_ _=>rfl)
    refine aq.cons (λρ L W hR hI hL hD hO hF K hK=>?_) ?_
    ·clear hF hD hO hR;simp only[Act.put,ax,aw,ay]at hK |-;go_simp;refine hK _ _ trivial (by simpa[ar]using hI) (λ_ _=>rfl)
    refine aq.cons (λρ L W hR hI hL hD hO hF K hK=>?_) ?_
    ·have f2:=ag hF (j:=2) (by decide);have f3:=ag hF (j:=3) (by decide);have f4:=ag hF (j:=4) (by decide);rw[if_neg (by rw[hL];decide)]at hI;subst hI;clear hF hD hO hR;simp only[Act.put,ax,aw,ay]at hK |-;have e2:ρ 2=Yl (some ⟨b,0,none⟩):=f2;have e3:ρ 3=.agg #[Yh Yn 2,Yi x,Yh Yn ((c:Int)+1)]:=f3;have e4:ρ 4=Yh Yn (off:Int):=f4;rw[e2,e3,e4]at hK |-;go_simp;go_at_call 164;refine HIT.out.mono ?_;rintro e W2 ⟨rfl,h1,h2⟩;exact hK _ _ trivial (by simp only[ar,if_true];exact⟨h1,h2⟩) (λ_ _=>rfl)
    refine aq.cons (λρ L W hR hI hL hD hO hF K hK=>?_) ?_
    ·have f5:=ag hF (j:=5) (by decide);clear hF hD hO hR;simp only[Act.put,ax,aw,ay]at hK |-;have e5:ρ 5=Yk (!St.aU ah.length tx.length cuts.length false):=f5;rw[e5]at hK |-;go_simp;go_at_call 200;refine(kH _ _).mono ?_;rintro e W2 ⟨rfl,rfl⟩;exact hK _ _ trivial (by simpa[ar]using hI) (λ_ _=>rfl)
    refine aq.cons (λρ L W hR hI hL hD hO hF K hK=>?_) ?_
    ·have f6:=ag hF (j:=6) (by decide);clear hF hD hO hR;simp only[Act.put,ax,aw,ay]at hK |-;have e6:ρ 6=Yh Yn (iu (!St.aU ah.length tx.length cuts.length false)):=f6;rw[e6]at hK |-;go_simp;refine hK _ _ trivial (by simpa[ar]using hI) (λ_ _=>rfl)
    exact aq.nil
   intro ρ L W hR hI hL hF;obtain⟨_,_,_,_,_,_,_,g7,_⟩:=hF;have g7:ρ 7=Yh Yn (iu (!St.aU ah.length tx.length cuts.length false)):=g7;rw[g7];clear g7 hR;rw[if_pos (hL 5 (by decide))]at hI;obtain⟨eM,hbl⟩:=hI;have df:=aa (Below.trans IQ.out (Below.trans ((Below.refl B W9).drew) hbl));have iv:=aa eM;clear eM hbl hL;cases hfu:St.aU ah.length tx.length cuts.length false
   ·have cy:=aa hfu;clear hfu;go_wp2;go_ret;exact zf HST.out (by decide) cy.out df.out (iv.out cy.out)
   have cy:=aa hfu;clear hfu;go_wp2;go_ret;exact ze HST.out (by decide) cy.out df.out
 ·rcases St.cT op with rfl|⟨o1,o,rfl⟩
  ·
   have HST:=aa (show St.stepT (⟨Yj A3 ([]:List St.It).length c3,[],c⟩:Mo).op c 3 x.1.1=none from rfl);simp only[List.length_nil]at g3';have z0:((0:Int)==0)=true:=rfl;clear hv;go_enter Tryz.func198,Tryz.ntmps198;go_wp2_with fail
   first|refine aP (by kernel_rfl) (by kernel_rfl) ?_|refine aS (by kernel_rfl) (by kernel_rfl) ?_
   repeat (go_big_quiet_step (first|(fail)))
   refine wpQuiet_nil ?_;rintro _ ⟨X,rfl⟩;go_wp2;go_ret;exact F9 HST.out (Below.ai (Below.refl _ _) hBw uZ)
  ·
   obtain⟨m,hm⟩:∃m,o1.length=m:=⟨_,rfl⟩;have hol:(o1++[o]).length=m+1:=by simp[hm]
   have cR:=hv.2.2.2.2.2.1;simp only at cR;rw[hol]at g3' cR;obtain⟨g,rfl,ka,hgl,hgc⟩:=dU cR (by omega);have CY:(o1++[o])[m]?=some o:=by rw[<-hm];simp
   have hcs:=kF (o1++[o]) m (by rw[hol];omega);have Am:(o1++[o])[m]'(by rw[hol];omega)=o:=Option.some.inj ((List.getElem?_eq_getElem (by rw[hol];omega)).symm.trans CY);rw[Am]at hcs;have i1:=hgc _ _ hcs.2.1;have i2:=hgc _ _ hcs.2.2
   have Rm:o.2.1.length<=4611686018427387904:=by
    have:aV (o1++[o])=aV o1+o.2.1.length:=cw o1 o
    omega
   obtain⟨ok,ot,oi⟩:=o;simp only at i1 i2 Rm;haveI:af g w:=af.of hgl;have z0:(((m+1:Nat):Int)==0)=false:=by simp;omega
   have Gb:((m:Int)+1==0)=false:=by simp;omega
   have z3:(m:Int)<((m+1:Nat):Int):=by omega
   have XN:m+1<=c3:=by omega
   have CV:m<=2000:=by omega
   have IV:=aa hol;have fo:=aa cR;have bt:=aa (λW=>p8 ot W (by omega));have HM:=aa hm;clear hv hcs hgc CY Am hol cR hm;obtain⟨sb,n5⟩:∃sb:ByteArray,(⟨ot.toArray⟩:ByteArray)=sb:=⟨_,rfl⟩;obtain⟨nb,hnb⟩:∃nb:ByteArray,(⟨(St.nameOf ot).toArray⟩:ByteArray)=nb:=⟨_,rfl⟩;rw[n5,hnb]at bt;rw[n5]at i1;have hnl:nb.1.1=St.nameOf ot:=by rw[<-hnb]
   clear n5 hnb;obtain⟨bq,hq⟩:∃bq,(nb.toList != x.toList)=bq:=⟨_,rfl⟩
   have hst:St.stepT (⟨Yj (some ⟨g,0,none⟩) (m+1) c3,o1++[(ok,ot,oi)],c⟩:Mo).op c 3 x.1.1=if bq then none else some (oi,o1,c):=by
    show St.stepT (o1++[(ok,ot,oi)]) c 3 x.1.1=_
    unfold St.stepT;simp only[if_true,List.getLast?_append,List.getLast?_singleton,Option.some_or,List.dropLast_concat];cases bq
    ·rw[bne_eq_false_iff_eq,Lib.toList_data,Lib.toList_data,hnl]at hq;rw[if_pos hq];rfl
    rw[bne_iff_ne,Lib.toList_data,Lib.toList_data,hnl]at hq;rw[if_neg hq];rfl
   have HST:=aa hst;clear hst hnl;go_enter Tryz.func198,Tryz.ntmps198;go_wp2_with fail
   first|refine aP (by kernel_rfl) (by kernel_rfl) ?_|refine aS (by kernel_rfl) (by kernel_rfl) ?_
   repeat (go_big_quiet_step (first|(go_at_call 129;exact Calls.eE (bt.out _))))
   refine wpQuiet_nil ?_;rintro _ ⟨X,rfl⟩;have hI:ac (w.alloc (Yo #[Yh Yn 3,Yi x,Yh Yn 0] 36)) (under (w.alloc (Yo #[Yh Yn 3,Yi x,Yh Yn 0] 36)) X):=⟨X,rfl⟩;generalize under (w.alloc (Yo #[Yh Yn 3,Yi x,Yh Yn 0] 36)) X=W at *;have HU:=aa (((ac.refl w).alloc _).trans hI);cases bq;rotate_left 1
   ·have Rr:(nb.toList==x.toList)=false:=by simpa using hq
    have JZ:(!(nb.toList==x.toList))=true:=hq;simp only[JZ];clear hI;go_wp2;go_ret;exact F9 HST.out (Below.ai (Below.refl _ _) hBw HU.out)
   have Rr:(nb.toList==x.toList)=true:=by simpa using hq
   have JZ:(!(nb.toList==x.toList))=false:=hq;simp only[JZ];obtain⟨qa,_,qf3,_,hltb,_⟩:=(HV.out.ai HU.out).at;clear qa;have q3:W.cell? ⟨b,3,none⟩=some (Yj (some ⟨g,0,none⟩) (m+1) c3):=(HU.out.cell (p:=⟨b,3,none⟩) hblt).trans g3';have q2:W.cell? ⟨g,m*3+2,none⟩=some (Yh Yn oi):=(HU.out.cell (p:=⟨g,m*3+2,none⟩) hgl).trans i2;have cZ:=(hI.below.block w.1.size (by simp)).trans (bJ w (Yo #[Yh Yn 3,Yi x,Yh Yn 0] 36) w.1.size rfl);have x2:W.cell? ⟨w.1.size,2,none⟩=some (Yh Yn 0):=aj cZ 2;have Uq:W.frozen? ⟨w.1.size,2,none⟩=false:=bz cZ 2;have WW:W.cell? ⟨w.1.size,0,none⟩=some (Yh Yn 3):=aj cZ 0;have hbb:¬b=w.1.size:=by omega
   have yH:¬w.1.size=b:=by omega
   haveI:af b W:=af.of hltb;haveI:af w.1.size W:=af.of (ae cZ);haveI:af g W:=af.of (Nat.lt_of_lt_of_le hgl HU.out.size);have qo:=aa cZ;have aX:=aa (HU.out.setCell (p:=⟨w.1.size,2,none⟩) (Nat.le_refl _) (Yh Yn oi));clear hI cZ;go_wp2_with fail;have hos:W.ownsRow B 36 3 (Yj (some ⟨g,0,none⟩) (m+1) c3) (m+1) (ak (o1++[(ok,ot,oi)])):=aF HU.out fo.out
   have Hf:(ak (o1++[(ok,ot,oi)])).take (m*3)=ak o1:=by
    rw[bD,List.take_left' (by rw[j5,HM.out])]
   have hsh:=uX hos m (by omega);rw[Hf]at hsh
   have CL:BV ⟨Yj (some ⟨g,0,none⟩) m c3,o1,c⟩ ((W.setCell ⟨w.1.size,2,none⟩ (Yh Yn oi)).setCell ⟨b,3,none⟩ (Yj (some ⟨g,0,none⟩) m c3)) B b v0 v1 v2 ah tx cuts:=by
    refine BV.Vn (HV.out.ai aX.out) ?_ rfl;have:=aD (b:=w.1.size) (i:=2) (u:=Yh Yn oi) hsh (by simp[Value.ownBlock];omega)
    rw[HM.out];exact this
   have CQ:((W.setCell ⟨w.1.size,2,none⟩ (Yh Yn oi)).setCell ⟨b,3,none⟩ (Yj (some ⟨g,0,none⟩) m c3)).1[w.1.size]?=some (Yo #[Yh Yn 3,Yi x,Yh Yn oi] 36):=by
    rw[heap_setCell_other _ _ _ _ (by show w.1.size≠b;omega)];exact heap_setCell_same _ _ 2 _ _ _ qo.out
   have vu:Below B w ((W.setCell ⟨w.1.size,2,none⟩ (Yh Yn oi)).setCell ⟨b,3,none⟩ (Yj (some ⟨g,0,none⟩) m c3)):=(Below.ai (Below.refl _ _) hBw aX.out).setCell (p:=⟨b,3,none⟩) hBb _;have Jz:B<=((W.setCell ⟨w.1.size,2,none⟩ (Yh Yn oi)).setCell ⟨b,3,none⟩ (Yj (some ⟨g,0,none⟩) m c3)).1.size:=Nat.le_trans hBw vu.size;have I1:=aa CL;have lR:=aa CQ;have IQ:=aa vu;clear CL CQ vu hsh Hf hos HU aX qo WW x2 Uq q2 q3 qf3;generalize(W.setCell ⟨w.1.size,2,none⟩ (Yh Yn oi)).setCell ⟨b,3,none⟩ (Yj (some ⟨g,0,none⟩) m c3)=W9 at *;go_wp2_with fail;have HIT:=aa (lp W9.drew B b ah tx cuts 3 oi x off (b8.ai ⟨_,_,_,I1.out⟩ ((ac.refl W9).drew)) (by omega) (by omega) (by omega) Jz);have x0:W9.cell? ⟨w.1.size,0,none⟩=some (Yh Yn 3):=aj lR.out 0;have x1:W9.cell? ⟨w.1.size,1,none⟩=some (Yi x):=aj lR.out 1;have x2:W9.cell? ⟨w.1.size,2,none⟩=some (Yh Yn oi):=aj lR.out 2;haveI:af w.1.size W9:=af.of (ae lR.out);refine bU (λ_ _=>True) (λL W=>if L 5=true then(St.aU ah.length tx.length cuts.length false=false->b8 ⟨Yj (some ⟨g,0,none⟩) m c3,o1,c⟩ W B b (ah++St.ch tx++[(3,x.1.1,oi)]) [] (cuts++[off]))/\Below B W9.drew W else W=W9.drew) ([λv _=>v=Yl (some ⟨b,0,none⟩),λv _=>v=Yl (some ⟨b,0,none⟩),λv _=>v=Yl (some ⟨b,0,none⟩),λv _=>v=.agg #[Yh Yn 3,Yi x,Yh Yn oi],λv _=>v=Yh Yn (off:Int),λv _=>v=Yk (!St.aU ah.length tx.length cuts.length false),λv _=>v=Yh Yn (iu (!St.aU ah.length tx.length cuts.length false)),λv _=>v=Yh Yn (iu (!St.aU ah.length tx.length cuts.length false))]) (λ_=>trivial) (λ_ _ _ _ _=>trivial) (by kernel_rfl) (by rfl) (by kernel_rfl) (by kernel_rfl) ?_ ?_ ?_ ?_ ?_;rotate_left 1
   ·intro ρ;simp only[bZ,Act.put,ax,aw,ay,Nat.zero_add,Nat.reduceAdd];exact rfl
   ·simp
   ·refine aq.cons (λρ L W hR hI hL hD hO hF K hK=>?_) ?_
    ·clear hF hD hO hR;simp only[Act.put,ax,aw,ay]at hK |-;go_simp;refine hK _ _ trivial (by simpa[ar]using hI) (λ_ _=>rfl)
    refine aq.cons (λρ L W hR hI hL hD hO hF K hK=>?_) ?_
    ·have f0:=ag hF (j:=0) (by decide);clear hF hD hO hR;simp only[Act.put,ax,aw,ay]at hK |-;have e0:ρ 0=Yl (some ⟨b,0,none⟩):=f0;rw[e0]at hK |-;go_simp;refine hK _ _ trivial (by simpa[ar]using hI) (λ_ _=>rfl)
    refine aq.cons (λρ L W hR hI hL hD hO hF K hK=>?_) ?_
    ·have f1:=ag hF (j:=1) (by decide);clear hF hD hO hR;simp only[Act.put,ax,aw,ay]at hK |-;have e1:ρ 1=Yl (some ⟨b,0,none⟩):=f1;rw[e1]at hK |-;go_simp;refine hK _ _ trivial (by simpa[ar]using hI) (λ_ _=>rfl)
    refine aq.cons (λρ L W hR hI hL hD hO hF K hK=>?_) ?_
    ·have j9:L 5=false:=hD.not (p:=5) rfl (by decide) hL;rw[if_neg (by rw[j9];decide)]at hI;subst hI;clear hF hD hO hR;simp only[Act.put,ax,aw,ay]at hK |-;go_simp;refine hK _ _ trivial (by simp[ar,j9]) (λ_ _=>rfl)
    refine aq.cons (λρ L W hR hI hL hD hO hF K hK=>?_) ?_
    ·clear hF hD hO hR;simp only[Act.put,ax,aw,ay]at hK |-;go_simp;refine hK _ _ trivial (by simpa[ar]using hI) (λ_ _=>rfl)
    refine aq.cons (λρ L W hR hI hL hD hO hF K hK=>?_) ?_
    ·have f2:=ag hF (j:=2) (by decide);have f3:=ag hF (j:=3) (by decide);have f4:=ag hF (j:=4) (by decide);rw[if_neg (by rw[hL];decide)]at hI;subst hI;clear hF hD hO hR;simp only[Act.put,ax,aw,ay]at hK |-;have e2:ρ 2=Yl (some ⟨b,0,none⟩):=f2;have e3:ρ 3=.agg #[Yh Yn 3,Yi x,Yh Yn oi]:=f3;have e4:ρ 4=Yh Yn (off:Int):=f4;rw[e2,e3,e4]at hK |-;go_simp;go_at_call 164;refine HIT.out.mono ?_;rintro e W2 ⟨rfl,h1,h2⟩;exact hK _ _ trivial (by simp only[ar,if_true];exact⟨h1,h2⟩) (λ_ _=>rfl)
    refine aq.cons (λρ L W hR hI hL hD hO hF K hK=>?_) ?_
    ·have f5:=ag hF (j:=5) (by decide);clear hF hD hO hR;simp only[Act.put,ax,aw,ay]at hK |-;have e5:ρ 5=Yk (!St.aU ah.length tx.length cuts.length false):=f5;rw[e5]at hK |-;go_simp;go_at_call 200;refine(kH _ _).mono ?_;rintro e W2 ⟨rfl,rfl⟩;exact hK _ _ trivial (by simpa[ar]using hI) (λ_ _=>rfl)
    refine aq.cons (λρ L W hR hI hL hD hO hF K hK=>?_) ?_
    ·have f6:=ag hF (j:=6) (by decide);clear hF hD hO hR;simp only[Act.put,ax,aw,ay]at hK |-;have e6:ρ 6=Yh Yn (iu (!St.aU ah.length tx.length cuts.length false)):=f6;rw[e6]at hK |-;go_simp;refine hK _ _ trivial (by simpa[ar]using hI) (λ_ _=>rfl)
    exact aq.nil
   intro ρ L W hR hI hL hF;obtain⟨_,_,_,_,_,_,_,g7,_⟩:=hF;have g7:ρ 7=Yh Yn (iu (!St.aU ah.length tx.length cuts.length false)):=g7;rw[g7];clear g7 hR;rw[if_pos (hL 5 (by decide))]at hI;obtain⟨eM,hbl⟩:=hI;have df:=aa (Below.trans IQ.out (Below.trans ((Below.refl B W9).drew) hbl));have iv:=aa eM;clear eM hbl hL;cases hfu:St.aU ah.length tx.length cuts.length false
   ·have cy:=aa hfu;clear hfu;go_wp2;go_ret;exact zf HST.out (by decide) cy.out df.out (iv.out cy.out)
   have cy:=aa hfu;clear hfu;go_wp2;go_ret;exact ze HST.out (by decide) cy.out df.out
 ·
  have HST:=aa (show St.stepT (⟨Yj A3 op.length c3,op,c⟩:Mo).op c 4 x.1.1=some ((c:Int)+1,op,c+1)from rfl);clear hv;go_enter Tryz.func198,Tryz.ntmps198;go_wp2_with fail;have pk:ac (w.setCell ⟨b,4,none⟩ (Yh Yn ((c:Int)+1))) ((w.setCell ⟨b,4,none⟩ (Yh Yn ((c:Int)+1))).alloc (Yo #[Yh Yn 4,Yi x,Yh Yn ((c:Int)+1)] 36)):=uZ;have I1:=aa ((BV.RT (c':=c+1) HV.out ((c:Int)+1) (by omega)).ai pk);have lR:=aa (bJ (w.setCell ⟨b,4,none⟩ (Yh Yn ((c:Int)+1))) (Yo #[Yh Yn 4,Yi x,Yh Yn ((c:Int)+1)] 36) w.1.size (by simp));have Jz:B<=((w.setCell ⟨b,4,none⟩ (Yh Yn ((c:Int)+1))).alloc (Yo #[Yh Yn 4,Yi x,Yh Yn ((c:Int)+1)] 36)).1.size:=by simp;omega
  have IQ:=aa ((((Below.refl B w).setCell (p:=⟨b,4,none⟩) hBb (Yh Yn ((c:Int)+1))).alloc (by simp;omega) (Yo #[Yh Yn 4,Yi x,Yh Yn ((c:Int)+1)] 36)));clear pk;generalize(w.setCell ⟨b,4,none⟩ (Yh Yn ((c:Int)+1))).alloc (Yo #[Yh Yn 4,Yi x,Yh Yn ((c:Int)+1)] 36)=W9 at *;have HIT:=aa (lp W9.drew B b ah tx cuts 4 ((c:Int)+1) x off (b8.ai ⟨_,_,_,I1.out⟩ ((ac.refl W9).drew)) (by omega) (by omega) (by omega) Jz);have x0:W9.cell? ⟨w.1.size,0,none⟩=some (Yh Yn 4):=aj lR.out 0;have x1:W9.cell? ⟨w.1.size,1,none⟩=some (Yi x):=aj lR.out 1;have x2:W9.cell? ⟨w.1.size,2,none⟩=some (Yh Yn ((c:Int)+1)):=aj lR.out 2;haveI:af w.1.size W9:=af.of (ae lR.out);refine bU (λ_ _=>True) (λL W=>if L 5=true then(St.aU ah.length tx.length cuts.length false=false->b8 ⟨Yj A3 op.length c3,op,c+1⟩ W B b (ah++St.ch tx++[(4,x.1.1,((c:Int)+1))]) [] (cuts++[off]))/\Below B W9.drew W else W=W9.drew) ([λv _=>v=Yl (some ⟨b,0,none⟩),λv _=>v=Yl (some ⟨b,0,none⟩),λv _=>v=Yl (some ⟨b,0,none⟩),λv _=>v=.agg #[Yh Yn 4,Yi x,Yh Yn ((c:Int)+1)],λv _=>v=Yh Yn (off:Int),λv _=>v=Yk (!St.aU ah.length tx.length cuts.length false),λv _=>v=Yh Yn (iu (!St.aU ah.length tx.length cuts.length false)),λv _=>v=Yh Yn (iu (!St.aU ah.length tx.length cuts.length false))]) (λ_=>trivial) (λ_ _ _ _ _=>trivial) (by kernel_rfl) (by rfl) (by kernel_rfl) (by kernel_rfl) ?_ ?_ ?_ ?_ ?_;rotate_left 1
  ·intro ρ;simp only[bZ,Act.put,ax,aw,ay,Nat.zero_add,Nat.reduceAdd];exact rfl
  ·simp
  ·refine aq.cons (λρ L W hR hI hL hD hO hF K hK=>?_) ?_
   ·clear hF hD hO hR;simp only[Act.put,ax,aw,ay]at hK |-;go_simp;refine hK _ _ trivial (by simpa[ar]using hI) (λ_ _=>rfl)
   refine aq.cons (λρ L W hR hI hL hD hO hF K hK=>?_) ?_
   ·have f0:=ag hF (j:=0) (by decide);clear hF hD hO hR;simp only[Act.put,ax,aw,ay]at hK |-;have e0:ρ 0=Yl (some ⟨b,0,none⟩):=f0;rw[e0]at hK |-;go_simp;refine hK _ _ trivial (by simpa[ar]using hI) (λ_ _=>rfl)
   refine aq.cons (λρ L W hR hI hL hD hO hF K hK=>?_) ?_
   ·have f1:=ag hF (j:=1) (by decide);clear hF hD hO hR;simp only[Act.put,ax,aw,ay]at hK |-;have e1:ρ 1=Yl (some ⟨b,0,none⟩):=f1;rw[e1]at hK |-;go_simp;refine hK _ _ trivial (by simpa[ar]using hI) (λ_ _=>rfl)
   refine aq.cons (λρ L W hR hI hL hD hO hF K hK=>?_) ?_
   ·have j9:L 5=false:=hD.not (p:=5) rfl (by decide) hL;rw[if_neg (by rw[j9];decide)]at hI;subst hI;clear hF hD hO hR;simp only[Act.put,ax,aw,ay]at hK |-;go_simp;refine hK _ _ trivial (by simp[ar,j9]) (λ_ _=>rfl)
   refine aq.cons (λρ L W hR hI hL hD hO hF K hK=>?_) ?_
   ·clear hF hD hO hR;simp only[Act.put,ax,aw,ay]at hK |-;go_simp;refine hK _ _ trivial (by simpa[ar]using hI) (λ_ _=>rfl)
   refine aq.cons (λρ L W hR hI hL hD hO hF K hK=>?_) ?_
   ·have f2:=ag hF (j:=2) (by decide);have f3:=ag hF (j:=3) (by decide);have f4:=ag hF (j:=4) (by decide);rw[if_neg (by rw[hL];decide)]at hI;subst hI;clear hF hD hO hR;simp only[Act.put,ax,aw,ay]at hK |-;have e2:ρ 2=Yl (some ⟨b,0,none⟩):=f2;have e3:ρ 3=.agg #[Yh Yn 4,Yi x,Yh Yn ((c:Int)+1)]:=f3;have e4:ρ 4=Yh Yn (off:Int):=f4;rw[e2,e3,e4]at hK |-;go_simp;go_at_call 164;refine HIT.out.mono ?_;rintro e W2 ⟨rfl,h1,h2⟩;exact hK _ _ trivial (by simp only[ar,if_true];exact⟨h1,h2⟩) (λ_ _=>rfl)
   refine aq.cons (λρ L W hR hI hL hD hO hF K hK=>?_) ?_
   ·have f5:=ag hF (j:=5) (by decide);clear hF hD hO hR;simp only[Act.put,ax,aw,ay]at hK |-;have e5:ρ 5=Yk (!St.aU ah.length tx.length cuts.length false):=f5;rw[e5]at hK |-;go_simp;go_at_call 200;refine(kH _ _).mono ?_;rintro e W2 ⟨rfl,rfl⟩;exact hK _ _ trivial (by simpa[ar]using hI) (λ_ _=>rfl)
   refine aq.cons (λρ L W hR hI hL hD hO hF K hK=>?_) ?_
   ·have f6:=ag hF (j:=6) (by decide);clear hF hD hO hR;simp only[Act.put,ax,aw,ay]at hK |-;have e6:ρ 6=Yh Yn (iu (!St.aU ah.length tx.length cuts.length false)):=f6;rw[e6]at hK |-;go_simp;refine hK _ _ trivial (by simpa[ar]using hI) (λ_ _=>rfl)
   exact aq.nil
  intro ρ L W hR hI hL hF;obtain⟨_,_,_,_,_,_,_,g7,_⟩:=hF;have g7:ρ 7=Yh Yn (iu (!St.aU ah.length tx.length cuts.length false)):=g7;rw[g7];clear g7 hR;rw[if_pos (hL 5 (by decide))]at hI;obtain⟨eM,hbl⟩:=hI;have df:=aa (Below.trans IQ.out (Below.trans ((Below.refl B W9).drew) hbl));have iv:=aa eM;clear eM hbl hL;cases hfu:St.aU ah.length tx.length cuts.length false
  ·have cy:=aa hfu;clear hfu;go_wp2;go_ret;exact zf HST.out (by decide) cy.out df.out (iv.out cy.out)
  have cy:=aa hfu;clear hfu;go_wp2;go_ret;exact ze HST.out (by decide) cy.out df.out
end
section
def nF(mo:Mo)(w:Ys)(B b:Nat)(ah:List St.It)(tx:List UInt8)(cuts:List Nat)(l:List UInt8)(off:Nat)(e:Ending)(w':Ys):Prop:=
 Below B w w'/\match St.bV l with
  | none=>∃m:Int,e=Yp (Ym #[Yh Yn m,Yh Yn 2])
  | some (k,t,n)=>match St.stepT mo.op mo.c k t with
   | none=>∃m:Int,e=Yp (Ym #[Yh Yn m,Yh Yn 7])
   | some (i,cK,c')=>if 512<(St.aL (ah++St.ch tx) (k,t,i)).length\/1024<=cuts.length then ∃m:Int,e=Yp (Ym #[Yh Yn m,Yh Yn 3])else
    e=Yp (Ym #[Yh Yn n,Yh Yn 0])/\∃v' fD jB,b8 ⟨v',cK,c'⟩ w' B b fD jB (cuts++[off])/\St.fG fD/\fD++St.ch jB=St.aL (ah++St.ch tx) (k,t,i)/\jB.length<=cuts.length+1
section
variable {mo:Mo} {w:Ys} {B b:Nat} {ah:List St.It} {tx:List UInt8} {cuts:List Nat} {l:List UInt8} {off:Nat} {w':Ys} {n:Nat} {c:UInt8} {t:List UInt8} {m:Int}
theorem rh(h:St.bV l=none)(hb:Below B w w'):nF mo w B b ah tx cuts l off (Yp (Ym #[Yh Yn m,Yh Yn 2])) w':=by
 refine⟨hb,?_⟩;rw[h];exact⟨m,rfl⟩
theorem Dh(h:St.bV l=some (1,[c],n))(hN:St.fG ah)(hf:St.aU ah.length tx.length cuts.length true=true)(hb:Below B w w'):nF mo w B b ah tx cuts l off (Yp (Ym #[Yh Yn m,Yh Yn 3])) w':=by
 refine⟨hb,?_⟩;rw[h];simp only[St.stepT];rw[if_neg (by decide),if_neg (by decide),if_neg (by decide)];simp only;rw[if_pos ((St.lH hN c cuts.length).2 hf)];exact⟨m,rfl⟩
theorem Dg(h:St.bV l=some (1,[c],n))(hN:St.fG ah)(hf:St.aU ah.length tx.length cuts.length true=false)(hb:Below B w w')
  (hB:b8 mo w' B b ah (tx++[c]) (cuts++[off])) (ht:tx.length<=cuts.length) (hm:m=(n:Int)):nF mo w B b ah tx cuts l off (Yp (Ym #[Yh Yn m,Yh Yn 0])) w':=by
 refine⟨hb,?_⟩;rw[h];simp only[St.stepT];rw[if_neg (by decide),if_neg (by decide),if_neg (by decide)];simp only;rw[if_neg (λh2=>by rw[(St.lH hN c cuts.length).1 h2]at hf;cases hf),hm];exact⟨rfl,mo.v,ah,tx++[c],hB,hN,(St.rD hN c).symm,by simp;omega⟩
theorem Ki(h:St.bV l=some (5,t,n))(hf:St.aU ah.length tx.length cuts.length false=true)(hb:Below B w w'):nF mo w B b ah tx cuts l off (Yp (Ym #[Yh Yn m,Yh Yn 3])) w':=by
 refine⟨hb,?_⟩;rw[h];simp only[St.stepT];rw[if_neg (by decide),if_neg (by decide),if_neg (by decide)];simp only;rw[if_pos ((St.j8 5 t cuts.length (by decide)).2 hf)];exact⟨m,rfl⟩
theorem Mj(h:St.bV l=some (5,t,n))(hf:St.aU ah.length tx.length cuts.length false=false)(hb:Below B w w')
  (hB:b8 mo w' B b (ah++St.ch tx++[(5,t,0)]) [] (cuts++[off])) (hm:m=(n:Int)):nF mo w B b ah tx cuts l off (Yp (Ym #[Yh Yn m,Yh Yn 0])) w':=by
 refine⟨hb,?_⟩;rw[h];simp only[St.stepT];rw[if_neg (by decide),if_neg (by decide),if_neg (by decide)];simp only;rw[if_neg (λh2=>by rw[(St.j8 5 t cuts.length (by decide)).1 h2]at hf;cases hf),hm];exact⟨rfl,mo.v,_,[],hB,St.mv _ 5 t 0 (by decide),by rw[St.rE 5 t (by decide)];simp[St.ch],by simp⟩
theorem OU{w2:Ys}{k:Int}{e:Ending}(h:St.bV l=some (k,t,n))(hk:k=2\/k=3\/k=4)(hm:m=(n:Int))(hw:Below B w w2)(ht:pM mo w2 B b ah tx cuts k t off e w'):∃er:Int,e=Yp (Yh Yn er)/\nF mo w B b ah tx cuts l off (Yp (Ym #[Yh Yn m,Yh Yn er])) w':=by
 obtain⟨hb,hq⟩:=ht;have hk1:k≠1:=by omega
 unfold nF;rw[h];simp only;cases hs:St.stepT mo.op mo.c k t with
 | none=>rw[hs]at hq;exact⟨7,hq,hw.trans hb,m,rfl⟩
 | some y=>
  obtain⟨i,cK,c'⟩:=y;rw[hs]at hq;simp only at hq |-
  split at hq
  ·rename_i hf
   exact⟨3,hq,hw.trans hb,by rw[if_pos hf];exact⟨m,rfl⟩⟩
  rename_i hf
  obtain⟨he,v',hB⟩:=hq;refine⟨0,he,hw.trans hb,?_⟩;rw[if_neg hf];refine⟨by rw[hm],v',_,[],hB,St.mv _ k t i hk1,?_,by simp⟩;unfold St.aL;rw[if_neg hk1];simp[St.ch]
end
theorem kV(mo:Mo)(w:Ys)(B b:Nat)(ah:List St.It)(tx:List UInt8)(cuts:List Nat)(raw:ByteArray)(a:Nat)(h:b8 mo w B b ah tx cuts)(hN:St.fG ah)(h1:ah.length<=512)(h2:cuts.length<=1024)(h3:tx.length<=cuts.length)(h4:mo.op.length<=2000)(h5:mo.c<=2000)(h6:aV mo.op<=4611686018427387904)(hBw:B<=w.1.size)
  (ha:a<raw.size) (hr:raw.size<=4611686018427387904) :
  Calls Tryz.prog 172 #[Yl (some ⟨b,0,none⟩),Yi raw,Yh Yn a] w (nF mo w B b ah tx cuts (raw.1.1.drop a) a):=by
 obtain⟨s,hE⟩:∃s,raw.extract a raw.size=s:=⟨_,rfl⟩;have hsz:s.size=raw.size-a:=by rw[<-hE];simp
 have hs0:0<s.size:=by omega
 have hl:s.1.1=raw.1.1.drop a:=by rw[<-hE];simp;exact List.take_of_length_le (by simp)
 rw[<-hl];have hcr:s.1.1=s[0] :: s.1.1.drop 1:=St.fB s hs0;have ha1:(a:Int)<=raw.size:=by omega
 have ha2:¬raw.size<a:=by omega
 have hN':=aa hN;obtain⟨v0,v1,v2,hv⟩:=h;have hbl:=hv.2.1;have hblt:b<w.1.size:=ae hbl;have H:Hid (b8 mo w B b ah tx cuts):=aa ⟨v0,v1,v2,hv⟩;have Ws:s.size<=4611686018427387904:=by omega
 clear hl hv hbl hsz hN
 by_cases gY:s[0].toNat=60
 ·have hsl:=St.ow (r:=s.1.1.drop 1) gY;rw[<-hcr]at hsl;have Qz:((s[0].toNat:Int)==60)=true:=by simp;omega
  have dR:=aa (Dn s w Ws hs0 gY);unfold St.tS at hsl;clear hcr gY;cases hq:St.fW s.1.1 with
  | none=>
   rw[hq]at hsl dR;have bm:=aa hsl;clear hsl hq;go_enter Tryz.func172,Tryz.ntmps172;go_wp2_with fail;refine dR.out.mono ?_;rintro e w2 ⟨hu,k,x,m,rfl⟩;have HU:=aa hu;clear hu dR;go_wp2;go_ret2;exact rh bm.out (Below.ai (Below.refl _ _) hBw (HU.out.alloc _))
  | some q=>
   obtain⟨k,t,n⟩:=q;rw[hq]at hsl dR;simp only at hsl;have hkk:=(St.kN hq).1
   have htl:t.length<=4611686018427387904:=by
    have:=St.kN hq
    rw[St.aC]at this;omega
   have bt:=aa (λW=>p8 t W htl);cases hb:St.bC (St.nameOf t)
   ·rw[hb]at hsl;simp only[Bool.false_eq_true,if_false]at hsl;have uQ:=aa (λW=>ms ⟨(St.nameOf t).toArray⟩ W);rw[show St.bC (⟨(St.nameOf t).toArray⟩:ByteArray).1.1=false from hb]at uQ;have bm:=aa hsl;obtain⟨tb,fx⟩:∃tb:ByteArray,(⟨t.toArray⟩:ByteArray)=tb:=⟨_,rfl⟩;obtain⟨nb,hnb⟩:∃nb:ByteArray,(⟨(St.nameOf t).toArray⟩:ByteArray)=nb:=⟨_,rfl⟩;have mX:tb.1.1=t:=by rw[<-fx]
    have Ve:tb.size<=4611686018427387904:=by rw[<-St.aC,mX];exact htl
    have VW:=aa (show ∀W',wL (some (k,t,n)) w (Yp (Ym #[.agg #[Yh Yn k,Yi tb,Yh Yn 0],Yh Yn n,Yk true])) W'->ac w W' from λW' h=>h.1);rw[fx,hnb]at bt;rw[hnb]at uQ;clear hsl hq hb hnb;go_enter Tryz.func172,Tryz.ntmps172;go_wp2_with fail;refine dR.out.mono ?_;rintro e w2 ⟨hu,he⟩;simp only at he;rw[fx]at he;subst he;have HU:=aa hu;clear hu dR VW;go_wp2_with fail;refine(bt.out _).mono ?_;rintro e w3 ⟨rfl,hu3⟩;have a7:=aa (HU.out.trans (ac.trans (uZ) hu3));have cZ:=(hu3.below.block w2.1.size (by simp)).trans (bJ w2 (Yo #[Yh Yn k,Yi tb,Yh Yn 0] 36) w2.1.size rfl);have x0:w3.cell? ⟨w2.1.size,0,none⟩=some (Yh Yn k):=aj cZ 0;have x1:w3.cell? ⟨w2.1.size,1,none⟩=some (Yi tb):=aj cZ 1;have x2:w3.cell? ⟨w2.1.size,2,none⟩=some (Yh Yn 0):=aj cZ 2;haveI:af w2.1.size w3:=af.of (ae cZ);clear hu3 cZ HU;go_wp2_with fail;refine(uQ.out _).mono ?_;rintro e w4 ⟨rfl,rfl⟩;have cC:=IC mo w3 B b ah tx cuts k tb a (H.out.ai a7.out) (by omega) h1 h2 h3 h4 h5 h6 (Nat.le_trans hBw a7.out.size) Ve;rw[mX]at cC;have UO:=aa cC;clear cC;go_wp2_with fail;refine UO.out.mono ?_;intro e w5 hte;obtain⟨er,rfl,hend⟩:=OU (w:=w) (m:=(n:Int)) bm.out (by omega) rfl (Below.ai (Below.refl _ _) hBw a7.out) hte;have Uw:=aa hend;clear hend hte x0 x1 x2;go_wp2;go_ret2;exact Uw.out
   rw[hb]at hsl;simp only[if_true]at hsl;have uQ:=aa (λW=>ms ⟨(St.nameOf t).toArray⟩ W);rw[show St.bC (⟨(St.nameOf t).toArray⟩:ByteArray).1.1=true from hb]at uQ;have bm:=aa hsl;obtain⟨tb,fx⟩:∃tb:ByteArray,(⟨t.toArray⟩:ByteArray)=tb:=⟨_,rfl⟩;obtain⟨nb,hnb⟩:∃nb:ByteArray,(⟨(St.nameOf t).toArray⟩:ByteArray)=nb:=⟨_,rfl⟩;rw[fx,hnb]at bt;rw[hnb]at uQ;clear hsl hq hb hnb;go_enter Tryz.func172,Tryz.ntmps172;go_wp2_with fail;refine dR.out.mono ?_;rintro e w2 ⟨hu,he⟩;simp only at he;rw[fx]at he;subst he;have HU:=aa hu;clear hu dR;go_wp2_with fail;refine(bt.out _).mono ?_;rintro e w3 ⟨rfl,hu3⟩;have a7:=aa (HU.out.trans (ac.trans (uZ) hu3));clear hu3 HU;go_wp2_with fail;refine(uQ.out _).mono ?_;rintro e w4 ⟨rfl,rfl⟩;go_wp2;go_ret2;exact rh bm.out (Below.ai (Below.refl _ _) hBw a7.out)
 have Qz:((s[0].toNat:Int)==60)=false:=by simp;omega
 by_cases qO:s[0].toNat=38
 ·have hsl:=St.iU (r:=s.1.1.drop 1) qO;rw[<-hcr]at hsl;have e38:((s[0].toNat:Int)==38)=true:=by simp;omega
  have EY:=aa (λW=>Mm s W (by omega));clear hcr qO gY;unfold Ie at EY;cases hq:St.sh s.1.1 with
  | none=>
   rw[hq]at hsl EY;have bm:=aa hsl;clear hsl hq;go_enter Tryz.func172,Tryz.ntmps172;go_wp2_with fail;refine(EY.out _).mono ?_;rintro e w2 ⟨rfl,rfl⟩;go_wp2;go_ret2;exact rh bm.out (Below.refl _ _)
  | some q=>
   obtain⟨k,t,n⟩:=q;obtain⟨rfl,_,_,ht1⟩:=St.yW hq
   obtain⟨c,rfl⟩:∃c,t=[c]:=by
    match t,ht1 with
    | [c],_=>exact⟨c,rfl⟩
   rw[hq]at hsl EY;have bm:=aa hsl;have UK:Hid (∀W,Calls Tryz.prog 199 #[Yi s] W λe w'=>e=Yp (Ym #[Yh .u8 (c.toNat:Int),Yh Yn n,Yk true])/\W=w'):=EY;have BP:=aa (oN w B b ah tx cuts c a H.out (by omega) (by omega) (by omega) hBw);clear hsl hq EY;go_enter Tryz.func172,Tryz.ntmps172;go_wp2_with fail;refine(UK.out _).mono ?_;rintro e w2 ⟨rfl,rfl⟩;go_wp2_with fail;refine BP.out.mono ?_;rintro e w2 ⟨rfl,eM,hbl⟩;have iv:=aa eM;have df:=aa hbl;clear eM hbl;go_wp2_with fail;refine(kH _ _).mono ?_;rintro e w3 ⟨rfl,rfl⟩;cases hfu:St.aU ah.length tx.length cuts.length true
   ·have cy:=aa hfu;clear hfu;go_wp2;go_ret2;exact Dg bm.out hN'.out cy.out df.out (iv.out cy.out) h3 rfl
   have cy:=aa hfu;clear hfu;go_wp2;go_ret2;exact Dh bm.out hN'.out cy.out df.out
 have e38:((s[0].toNat:Int)==38)=false:=by simp;omega
 by_cases dj:s[0].toNat=123
 ·have hsl:=St.lu (r:=s.1.1.drop 1) dj;rw[<-hcr]at hsl;have tu:((s[0].toNat:Int)==123)=true:=by simp;omega
  have bP:=λW=>Tryz.strings_IndexByte s 125 W
  have l5:(125:Int).toNat.toUInt8=125:=rfl;rw[l5,hcr]at bP;rcases St.ru (r:=s.1.1.drop 1) dj with⟨hi,hs⟩|⟨n,hi,hn,ff,hs⟩
  ·rw[hi]at bP;rw[<-hcr]at hs;rw[hs]at hsl;have bm:=aa hsl;have ep:=aa bP;clear hsl hcr bP hi hs l5 gY qO dj;go_enter Tryz.func172,Tryz.ntmps172;go_wp2_with fail;refine(ep.out _).mono ?_;rintro e w1 ⟨rfl,hw1⟩;obtain rfl:w=w1:=hw1.symm;clear hw1;go_wp2;go_ret2;exact rh bm.out (Below.refl _ _)
  rw[hi]at bP;have hns:n+1<s.size:=by rw[<-hcr]at hn;simpa using hn
  obtain⟨x,hX⟩:∃x,s.extract 1 (n+1)=x:=⟨_,rfl⟩;have hxl:x.1.1=(s.1.1.drop 1).take n:=by rw[<-hX];simp
  have hxs:x.size<=s.size:=by rw[<-hX];simp;omega
  have Vj:x.1.1.length=n:=by rw[hxl];simp;omega
  have be:=λW=>kG x W (by omega)
  rw[<-hcr,<-hxl]at hs;have z1:(1:Int)<=(n:Int)+1:=by omega
  have z2:(n:Int)+1<=s.size:=by omega
  have z3:¬(n:Int)+1<0:=by omega
  rw[show(((n+1:Nat):Int))=(n:Int)+1 by omega]at bP;cases hnb:St.aE x.1.1
  ·rw[hnb]at hs be;simp only[Bool.false_eq_true,if_false]at hs;rw[hs]at hsl;have bm:=aa hsl;have ep:=aa bP;have bt:=aa be;clear hsl hcr bP hi hs l5 hn ff be hnb hxl Vj gY qO dj;go_enter Tryz.func172,Tryz.ntmps172;go_wp2_with fail;refine(ep.out _).mono ?_;rintro e w1 ⟨rfl,hw1⟩;obtain rfl:w=w1:=hw1.symm;clear hw1;go_wp2_with fail;refine(bt.out _).mono ?_;rintro e w' ⟨rfl,rfl⟩;go_wp2;go_ret2;exact rh bm.out (Below.refl _ _)
  rw[hnb]at hs be;simp only[if_true]at hs;rw[hs]at hsl;simp only[Option.map_some]at hsl;have bm:=aa hsl;have ep:=aa bP;have bt:=aa be;have hw2:IntKind.i64.wrap ((n:Int)+1+1)=(n:Int)+1+1:=IntWalk.i64_in _ (by omega);have HIT:=aa (lp w.drew B b ah tx cuts 5 0 x a (H.out.ai ((ac.refl w).drew)) (by omega) (by omega) (by omega) hBw);clear hsl hcr bP hi hs l5 hn ff be hnb hxl gY qO dj;go_enter Tryz.func172,Tryz.ntmps172;go_wp2_with fail;refine(ep.out _).mono ?_;rintro e w1 ⟨rfl,hw1⟩;obtain rfl:w=w1:=hw1.symm;clear hw1;go_wp2_with fail;refine(bt.out _).mono ?_;rintro e w' ⟨rfl,rfl⟩;go_wp2_with fail;refine bU (λ_ _=>True) (λL W=>if L 10=true then(St.aU ah.length tx.length cuts.length false=false->b8 mo W B b (ah++St.ch tx++[(5,x.1.1,0)]) [] (cuts++[a]))/\Below B w.drew W else W=w.drew) ([λv _=>v=Yh Yn ((n:Int)+1),λv _=>v=Yh Yn ((n:Int)+1+1),λv _=>v=Yl (some ⟨b,0,none⟩),λv _=>v=Yl (some ⟨b,0,none⟩),λv _=>v=Yl (some ⟨b,0,none⟩),λv _=>v=Yi s,λv _=>v=Yh Yn ((n:Int)+1),λv _=>v=Yi x,λv _=>v=.agg #[Yh Yn 5,Yi x,Yh Yn 0],λv _=>v=Yh Yn (a:Int),λv _=>v=Yk (!St.aU ah.length tx.length cuts.length false),λv _=>v=Yh Yn (iu (!St.aU ah.length tx.length cuts.length false)),λv _=>v=Yh Yn ((n:Int)+1+1),λv _=>v=Yh Yn (iu (!St.aU ah.length tx.length cuts.length false))]) (λ_=>trivial) (λ_ _ _ _ _=>trivial) (by kernel_rfl) (by rfl) (by kernel_rfl) (by kernel_rfl) ?_ ?_ ?_ ?_ ?_;rotate_left 1
  ·intro ρ;simp only[bZ,Act.put,ax,aw,ay,Nat.zero_add,Nat.reduceAdd];exact rfl
  ·simp
  ·refine aq.cons (λρ L W hR hI hL hD hO hF K hK=>?_) ?_
   ·clear hF hD hO hR;simp only[Act.put,ax,aw,ay]at hK |-;go_simp;refine hK _ _ trivial (by simpa[ar]using hI) (λ_ _=>rfl)
   refine aq.cons (λρ L W hR hI hL hD hO hF K hK=>?_) ?_
   ·have f0:=ag hF (j:=0) (by decide);clear hF hD hO hR;simp only[Act.put,ax,aw,ay]at hK |-;have e0:ρ 0=Yh Yn ((n:Int)+1):=f0;rw[e0]at hK |-;go_simp;refine hK _ _ trivial (by simpa[ar]using hI) (λ_ _=>rfl)
   refine aq.cons (λρ L W hR hI hL hD hO hF K hK=>?_) ?_
   ·clear hF hD hO hR;simp only[Act.put,ax,aw,ay]at hK |-;go_simp;refine hK _ _ trivial (by simpa[ar]using hI) (λ_ _=>rfl)
   refine aq.cons (λρ L W hR hI hL hD hO hF K hK=>?_) ?_
   ·have f2:=ag hF (j:=2) (by decide);clear hF hD hO hR;simp only[Act.put,ax,aw,ay]at hK |-;have e2:ρ 2=Yl (some ⟨b,0,none⟩):=f2;rw[e2]at hK |-;go_simp;refine hK _ _ trivial (by simpa[ar]using hI) (λ_ _=>rfl)
   refine aq.cons (λρ L W hR hI hL hD hO hF K hK=>?_) ?_
   ·have f3:=ag hF (j:=3) (by decide);clear hF hD hO hR;simp only[Act.put,ax,aw,ay]at hK |-;have e3:ρ 3=Yl (some ⟨b,0,none⟩):=f3;rw[e3]at hK |-;go_simp;refine hK _ _ trivial (by simpa[ar]using hI) (λ_ _=>rfl)
   refine aq.cons (λρ L W hR hI hL hD hO hF K hK=>?_) ?_
   ·clear hF hD hO hR;simp only[Act.put,ax,aw,ay]at hK |-;go_simp;refine hK _ _ trivial (by simpa[ar]using hI) (λ_ _=>rfl)
   refine aq.cons (λρ L W hR hI hL hD hO hF K hK=>?_) ?_
   ·clear hF hD hO hR;simp only[Act.put,ax,aw,ay]at hK |-;go_simp;refine hK _ _ trivial (by simpa[ar]using hI) (λ_ _=>rfl)
   refine aq.cons (λρ L W hR hI hL hD hO hF K hK=>?_) ?_
   ·have f5:=ag hF (j:=5) (by decide);have f6:=ag hF (j:=6) (by decide);clear hF hD hO hR;simp only[Act.put,ax,aw,ay]at hK |-;have e5:ρ 5=Yi s:=f5;have e6:ρ 6=Yh Yn ((n:Int)+1):=f6;rw[e5,e6]at hK |-;go_simp;refine hK _ _ trivial (by simpa[ar]using hI) (λ_ _=>rfl)
   refine aq.cons (λρ L W hR hI hL hD hO hF K hK=>?_) ?_
   ·have f7:=ag hF (j:=7) (by decide);clear hF hD hO hR;simp only[Act.put,ax,aw,ay]at hK |-;have e7:ρ 7=Yi x:=f7;rw[e7]at hK |-;go_simp;refine hK _ _ trivial (by simpa[ar]using hI) (λ_ _=>rfl)
   refine aq.cons (λρ L W hR hI hL hD hO hF K hK=>?_) ?_
   ·clear hF hD hO hR;simp only[Act.put,ax,aw,ay]at hK |-;go_simp;refine hK _ _ trivial (by simpa[ar]using hI) (λ_ _=>rfl)
   refine aq.cons (λρ L W hR hI hL hD hO hF K hK=>?_) ?_
   ·have f4:=ag hF (j:=4) (by decide);have f8:=ag hF (j:=8) (by decide);have f9:=ag hF (j:=9) (by decide);rw[if_neg (by rw[hL];decide)]at hI;subst hI;clear hF hD hO hR;simp only[Act.put,ax,aw,ay]at hK |-;have e4:ρ 4=Yl (some ⟨b,0,none⟩):=f4;have e8:ρ 8=.agg #[Yh Yn 5,Yi x,Yh Yn 0]:=f8;have e9:ρ 9=Yh Yn (a:Int):=f9;rw[e4,e8,e9]at hK |-;go_simp;go_at_call 164;refine HIT.out.mono ?_;rintro e W2 ⟨rfl,h1,h2⟩;exact hK _ _ trivial (by simp only[ar,if_true];exact⟨h1,h2⟩) (λ_ _=>rfl)
   refine aq.cons (λρ L W hR hI hL hD hO hF K hK=>?_) ?_
   ·have f10:=ag hF (j:=10) (by decide);clear hF hD hO hR;simp only[Act.put,ax,aw,ay]at hK |-;have e10:ρ 10=Yk (!St.aU ah.length tx.length cuts.length false):=f10;rw[e10]at hK |-;go_simp;go_at_call 200;refine(kH _ _).mono ?_;rintro e W2 ⟨rfl,rfl⟩;exact hK _ _ trivial (by simpa[ar]using hI) (λ_ _=>rfl)
   refine aq.cons (λρ L W hR hI hL hD hO hF K hK=>?_) ?_
   ·have f1:=ag hF (j:=1) (by decide);clear hF hD hO hR;simp only[Act.put,ax,aw,ay]at hK |-;have e1:ρ 1=Yh Yn ((n:Int)+1+1):=f1;rw[e1]at hK |-;go_simp;refine hK _ _ trivial (by simpa[ar]using hI) (λ_ _=>rfl)
   refine aq.cons (λρ L W hR hI hL hD hO hF K hK=>?_) ?_
   ·have f11:=ag hF (j:=11) (by decide);clear hF hD hO hR;simp only[Act.put,ax,aw,ay]at hK |-;have e11:ρ 11=Yh Yn (iu (!St.aU ah.length tx.length cuts.length false)):=f11;rw[e11]at hK |-;go_simp;refine hK _ _ trivial (by simpa[ar]using hI) (λ_ _=>rfl)
   exact aq.nil
  intro ρ L W hR hI hL hF;obtain⟨_,_,_,_,_,_,_,_,_,_,_,_,g12,g13,_⟩:=hF;have g12:ρ 12=Yh Yn ((n:Int)+1+1):=g12;have g13:ρ 13=Yh Yn (iu (!St.aU ah.length tx.length cuts.length false)):=g13;rw[g12,g13];clear g12 g13 hR;rw[if_pos (hL 10 (by decide))]at hI;obtain⟨eM,hbl⟩:=hI;have df:=aa (Below.trans ((Below.refl B w).drew) hbl);have iv:=aa eM;clear eM hbl hL;cases hfu:St.aU ah.length tx.length cuts.length false
  ·have cy:=aa hfu;clear hfu;go_wp2;go_ret2;exact Mj bm.out cy.out df.out (iv.out cy.out) (by omega)
  have cy:=aa hfu;clear hfu;go_wp2;go_ret2;exact Ki bm.out cy.out df.out
 have tu:((s[0].toNat:Int)==123)=false:=by simp;omega
 have hsl:=St.kj (r:=s.1.1.drop 1) gY qO dj;rw[<-hcr]at hsl;have bm:=aa hsl;have BP:=aa (oN w.drew B b ah tx cuts s[0] a (H.out.ai ((ac.refl w).drew)) (by omega) (by omega) (by omega) hBw);clear hsl hcr gY qO dj;go_enter Tryz.func172,Tryz.ntmps172;go_wp2_with fail;refine bU (λ_ _=>True) (λL W=>if L 6=true then(St.aU ah.length tx.length cuts.length true=false->b8 mo W B b ah (tx++[s[0]]) (cuts++[a]))/\Below B w.drew W else W=w.drew) ([λv _=>v=Yl (some ⟨b,0,none⟩),λv _=>v=Yl (some ⟨b,0,none⟩),λv _=>v=Yl (some ⟨b,0,none⟩),λv _=>v=Yi s,λv _=>v=Yh .u8 (s[0].toNat:Int),λv _=>v=Yh Yn (a:Int),λv _=>v=Yk (!St.aU ah.length tx.length cuts.length true),λv _=>v=Yh Yn (iu (!St.aU ah.length tx.length cuts.length true)),λv _=>v=Yh Yn 1,λv _=>v=Yh Yn (iu (!St.aU ah.length tx.length cuts.length true))]) (λ_=>trivial) (λ_ _ _ _ _=>trivial) (by kernel_rfl) (by rfl) (by kernel_rfl) (by kernel_rfl) ?_ ?_ ?_ ?_ ?_;rotate_left 1
 ·intro ρ;simp only[bZ,Act.put,ax,aw,ay,Nat.zero_add,Nat.reduceAdd];exact rfl
 ·simp
 ·refine aq.cons (λρ L W hR hI hL hD hO hF K hK=>?_) ?_
  ·clear hF hD hO hR;simp only[Act.put,ax,aw,ay]at hK |-;go_simp;refine hK _ _ trivial (by simpa[ar]using hI) (λ_ _=>rfl)
  refine aq.cons (λρ L W hR hI hL hD hO hF K hK=>?_) ?_
  ·have f0:=ag hF (j:=0) (by decide);clear hF hD hO hR;simp only[Act.put,ax,aw,ay]at hK |-;have e0:ρ 0=Yl (some ⟨b,0,none⟩):=f0;rw[e0]at hK |-;go_simp;refine hK _ _ trivial (by simpa[ar]using hI) (λ_ _=>rfl)
  refine aq.cons (λρ L W hR hI hL hD hO hF K hK=>?_) ?_
  ·have f1:=ag hF (j:=1) (by decide);clear hF hD hO hR;simp only[Act.put,ax,aw,ay]at hK |-;have e1:ρ 1=Yl (some ⟨b,0,none⟩):=f1;rw[e1]at hK |-;go_simp;refine hK _ _ trivial (by simpa[ar]using hI) (λ_ _=>rfl)
  refine aq.cons (λρ L W hR hI hL hD hO hF K hK=>?_) ?_
  ·clear hF hD hO hR;simp only[Act.put,ax,aw,ay]at hK |-;go_simp;refine hK _ _ trivial (by simpa[ar]using hI) (λ_ _=>rfl)
  refine aq.cons (λρ L W hR hI hL hD hO hF K hK=>?_) ?_
  ·have f3:=ag hF (j:=3) (by decide);clear hF hD hO hR;simp only[Act.put,ax,aw,ay]at hK |-;have e3:ρ 3=Yi s:=f3;rw[e3]at hK |-;go_simp;refine hK _ _ trivial (by simpa[ar]using hI) (λ_ _=>rfl)
  refine aq.cons (λρ L W hR hI hL hD hO hF K hK=>?_) ?_
  ·clear hF hD hO hR;simp only[Act.put,ax,aw,ay]at hK |-;go_simp;refine hK _ _ trivial (by simpa[ar]using hI) (λ_ _=>rfl)
  refine aq.cons (λρ L W hR hI hL hD hO hF K hK=>?_) ?_
  ·have f2:=ag hF (j:=2) (by decide);have f4:=ag hF (j:=4) (by decide);have f5:=ag hF (j:=5) (by decide);rw[if_neg (by rw[hL];decide)]at hI;subst hI;clear hF hD hO hR;simp only[Act.put,ax,aw,ay]at hK |-;have e2:ρ 2=Yl (some ⟨b,0,none⟩):=f2;have e4:ρ 4=Yh .u8 (s[0].toNat:Int):=f4;have e5:ρ 5=Yh Yn (a:Int):=f5;rw[e2,e4,e5]at hK |-;go_simp;go_at_call 162;refine BP.out.mono ?_;rintro e W2 ⟨rfl,h1,h2⟩;exact hK _ _ trivial (by simp only[ar,if_true];exact⟨h1,h2⟩) (λ_ _=>rfl)
  refine aq.cons (λρ L W hR hI hL hD hO hF K hK=>?_) ?_
  ·have f6:=ag hF (j:=6) (by decide);clear hF hD hO hR;simp only[Act.put,ax,aw,ay]at hK |-;have e6:ρ 6=Yk (!St.aU ah.length tx.length cuts.length true):=f6;rw[e6]at hK |-;go_simp;go_at_call 200;refine(kH _ _).mono ?_;rintro e W2 ⟨rfl,rfl⟩;exact hK _ _ trivial (by simpa[ar]using hI) (λ_ _=>rfl)
  refine aq.cons (λρ L W hR hI hL hD hO hF K hK=>?_) ?_
  ·clear hF hD hO hR;simp only[Act.put,ax,aw,ay]at hK |-;go_simp;refine hK _ _ trivial (by simpa[ar]using hI) (λ_ _=>rfl)
  refine aq.cons (λρ L W hR hI hL hD hO hF K hK=>?_) ?_
  ·have f7:=ag hF (j:=7) (by decide);clear hF hD hO hR;simp only[Act.put,ax,aw,ay]at hK |-;have e7:ρ 7=Yh Yn (iu (!St.aU ah.length tx.length cuts.length true)):=f7;rw[e7]at hK |-;go_simp;refine hK _ _ trivial (by simpa[ar]using hI) (λ_ _=>rfl)
  exact aq.nil
 intro ρ L W hR hI hL hF;obtain⟨_,_,_,_,_,_,_,_,g8,g9,_⟩:=hF;have g8:ρ 8=Yh Yn 1:=g8;have g9:ρ 9=Yh Yn (iu (!St.aU ah.length tx.length cuts.length true)):=g9;rw[g8,g9];clear g8 g9 hR;rw[if_pos (hL 6 (by decide))]at hI;obtain⟨eM,hbl⟩:=hI;have df:=aa (Below.trans ((Below.refl B w).drew) hbl);have iv:=aa eM;clear eM hbl hL;cases hfu:St.aU ah.length tx.length cuts.length true
 ·have cy:=aa hfu;clear hfu;go_wp2;go_ret2;exact Dg bm.out hN'.out cy.out df.out (iv.out cy.out) h3 rfl
 have cy:=aa hfu;clear hfu;go_wp2;go_ret2;exact Dh bm.out hN'.out cy.out df.out
end
section
def mu(raw:ByteArray):St.gr:=St.du St.bV raw.size raw.1.1 0 0 [] [] [] 0
def qN(raw:ByteArray)(w:Ys)(e:Ending)(w':Ys):Prop:=
 ac w w'/\((∃mo ah tx cuts,e=Yp (Ym #[Yl (some ⟨w.1.size,0,none⟩),Yh Yn 0,Yh Yn 0])/\b8 mo w' w.1.size w.1.size ah tx cuts/\ah.length<=512/\cuts.length<=1024/\tx.length<=cuts.length/\mu raw=(ah++St.ch tx,cuts++[raw.size],0,0))\/
  ∃(a:Nat) (er:Int),er≠0/\e=Yp (Ym #[Yl none,Yh Yn a,Yh Yn er])/\mu raw=([],[],a,er))
def SH(w:Ys)(raw:ByteArray)(s6:Value)(wr:Ys):Prop:=
 ∃(a:Nat) (mo:Mo) (ah:List St.It) (tx:List UInt8) (cuts:List Nat) (fuel:Nat),s6=Yh Yn a/\a<=raw.size/\raw.size-a<=fuel/\b8 mo wr w.1.size w.1.size ah tx cuts/\St.fG ah/\ah.length<=512/\cuts.length<=1024/\tx.length<=cuts.length /\
  mo.op.length<=cuts.length/\mo.c<=cuts.length/\aV mo.op<=a/\mu raw=St.du St.bV fuel (raw.1.1.drop a) a a (ah++St.ch tx) cuts mo.op mo.c/\ac w wr
theorem b8.fresh(w:Ys):b8 ⟨Yj none 0 0,[],0⟩ (w.alloc (Yo #[Yj none 0 0,Yj none 0 0,Yj none 0 0,Yj none 0 0,Yh Yn 0] 180)) w.1.size w.1.size [] [] []:=
 ⟨_,_,_,Nat.le_refl _,heap_alloc_new w _,World.ownsRow_nil _ _ _ _,World.ownsRow_nil _ _ _ _,World.ownsRow_nil _ _ _ _,World.ownsRow_nil _ _ _ _,.inl rfl⟩
theorem Pu{op cK:List St.It}{c c':Nat}{k i:Int}{t:List UInt8}(h:St.stepT op c k t=some (i,cK,c')):cK.length<=op.length+1/\c'<=c+1/\aV cK<=aV op+t.length:=by
 unfold St.stepT at h
 split at h
 ·cases hg:op.getLast? with
  | none=>rw[hg]at h;cases h
  | some o=>
   rw[hg]at h;simp only at h
   split at h
   ·simp only[Option.some.injEq,Prod.mk.injEq]at h;obtain⟨_,rfl,rfl⟩:=h;refine⟨by simp;omega,by omega,?_⟩;have:=fK op (op.length-1)
    rw[<-List.dropLast_eq_take]at this;omega
   cases h
 split at h
 ·simp only[Option.some.injEq,Prod.mk.injEq]at h;obtain⟨_,rfl,rfl⟩:=h;exact⟨by simp,by omega,by rw[cw];simp⟩
 split at h
 ·simp only[Option.some.injEq,Prod.mk.injEq]at h;obtain⟨_,rfl,rfl⟩:=h;exact⟨by omega,by omega,by omega⟩
 simp only[Option.some.injEq,Prod.mk.injEq]at h;obtain⟨_,rfl,rfl⟩:=h;exact⟨by omega,by omega,by omega⟩
theorem ks(raw:ByteArray)(w:Ys)(hr:raw.size<=4611686018427387904):Calls Tryz.prog 126 #[Yi raw] w (qN raw w):=by
 have nZ:=aa (b8.fresh w);go_enter Tryz.func126,Tryz.ntmps126;go_wp2;go_loopw [6] (λs6 wr=>SH w raw s6 wr) (λs6 _=>raw.size+1-(intOf s6).toNat)
 case atStart=>exact⟨0,_,[],[],[],raw.size,rfl,by omega,by omega,nZ.out,St.qc,by simp,by simp,by simp,by simp,by simp,by simp[aV],by simp[mu,St.ch],uZ⟩
 case round=>
  obtain⟨a,mo,ah,tx,cuts,fuel,rfl,ha,hfu,hB,hN,h1,h2,h3,h4,h5,h6,hD,hu⟩:=hrel;clear nZ
  by_cases hlt:a<raw.size
  ·have hel:=kV mo wr w.1.size w.1.size ah tx cuts raw a hB hN h1 h2 h3 (by omega) (by omega) (by omega) hu.size hlt hr;have jN:=aa hel;have HD:=aa hD;have HU:=aa hu
   have h0:raw.1.1.drop a≠[]:=by
    intro e;have:=congrArg List.length e
    simp at this;omega
   obtain⟨fuel,rfl⟩:∃m,fuel=m+1:=⟨fuel-1,by omega⟩;clear hel hB hN hD hu;go_wp2_with fail;refine jN.out.mono ?_;rintro e w2 ⟨hbl,hm⟩;have hu2:ac w w2:=ac.cn (Below.trans HU.out.below hbl);have aX:=aa hu2;clear hbl hu2;cases hs:St.bV (raw.1.1.drop a)with
   | none=>
    rw[hs]at hm;obtain⟨m,rfl⟩:=hm;have dt:=aa (HD.out.trans (St.j7 fuel a a _ cuts h0 hs));clear hs h0;go_wp2;go_ret3;exact⟨aX.out,.inr ⟨a,2,by decide,rfl,dt.out⟩⟩
   | some x=>
    obtain⟨k,t,n⟩:=x;rw[hs]at hm;simp only at hm;obtain⟨hk,gu,fe,hn4⟩:=St.pq hs;have gU:k≠0:=by omega
    have pa:a+n<=raw.size:=by simp at fe;omega
    have jf:(raw.1.1.drop a).drop n=raw.1.1.drop (a+n):=by rw[List.drop_drop]
    cases hst:St.stepT mo.op mo.c k t with
    | none=>
     rw[hst]at hm;obtain⟨m,rfl⟩:=hm;have dt:=aa (HD.out.trans (St.mS fuel a a _ cuts h0 hs gU hst));clear hs h0 hst jf;go_wp2;go_ret3;exact⟨aX.out,.inr ⟨a,7,by decide,rfl,dt.out⟩⟩
    | some y=>
     obtain⟨i,cK,c'⟩:=y;rw[hst]at hm;simp only at hm
     split at hm
     ·rename_i hf
      obtain⟨m,rfl⟩:=hm;have dt:=aa (HD.out.trans (St.j6 fuel a a _ cuts h0 hs gU hst hf));clear hs h0 hf hst jf;go_wp2;go_ret3;exact⟨aX.out,.inr ⟨a,3,by decide,rfl,dt.out⟩⟩
     rename_i hf
     obtain⟨rfl,v',fD,jB,hB',hN',hadd,ht'⟩:=hm;have hd2:=HD.out.trans (St.je fuel a a _ cuts h0 hs gU hst hf);obtain⟨o1,o2,o3⟩:=Pu hst;rw[<-hadd]at hd2 hf;rw[jf]at hd2;have Fu:fD.length<=512:=by have:=(not_or.1 hf).1;simp at this;omega
     have T1:cuts.length+1<=1024:=by have:=(not_or.1 hf).2;omega
     have HE:=aa (And.intro hd2 (And.intro hB' hN'));clear hd2 hB' hN' hadd hf hs h0 jf jN HD HU hst;go_wp2;exact⟨⟨a+n,_,fD,jB,cuts++[a],fuel,congrArg (Yh Yn) (by omega),pa,by omega,HE.out.2.1,HE.out.2.2,Fu,by simp;omega,by simp;omega,by simp only[List.length_append,List.length_singleton];omega,by simp only[List.length_append,List.length_singleton];omega,by simp only;omega,HE.out.1,aX.out⟩,by simp[intOf];omega⟩
  have xo:a=raw.size:=by omega
  subst xo;have hnil:raw.1.1.drop raw.size=[]:=List.drop_of_length_le (by simp);rw[hnil,St.gf]at hD;unfold St.jH at hD;obtain⟨v0,v1,v2,hv⟩:=hB;obtain⟨v,op,c⟩:=mo;simp only at h4 h5 h6 hD;obtain⟨A3,c3,rfl,_,_⟩:=aJ (show wr.ownsRow w.1.size 36 3 v op.length (ak op)from hv.2.2.2.2.2.1);obtain⟨g3,_,_,_,hblt,_⟩:=hv.at;haveI:af w.1.size wr:=af.of hblt;have HB:=aa (show b8 ⟨Yj A3 op.length c3,op,c⟩ wr w.1.size w.1.size ah tx cuts from⟨_,_,_,hv⟩);have HU:=aa hu
  by_cases hop:op=[]
  ·rw[if_pos hop]at hD;have HD:=aa hD;subst hop;have g3':wr.cell? ⟨w.1.size,3,none⟩=some (Yj A3 0 c3):=g3;clear hlt hv hN hD hu hnil g3;go_wp2;go_ret3;exact⟨HU.out,.inl ⟨_,ah,tx,cuts,rfl,HB.out,h1,h2,h3,HD.out⟩⟩
  rw[if_neg hop]at hD;have HD:=aa hD;have hpos:(0:Int)<(op.length:Int):=by have:=List.length_pos_iff.2 hop;omega
  have g3':wr.cell? ⟨w.1.size,3,none⟩=some (Yj A3 op.length c3):=g3;clear hlt hv hN hD hu hnil hop g3;go_wp2;go_ret3;exact⟨HU.out,.inr ⟨raw.size,7,by decide,rfl,HD.out⟩⟩
def jX(R:St.gr)(w:Ys)(e:Ending)(w':Ys):Prop:=
 ∃(A:Option Addr) (c:Nat),e=Yp (Ym #[Yj A R.1.length c,Yh Yn (R.2.2.1:Int),Yh Yn R.2.2.2])/\aH w' A R.1/\R.1.length<=c/\c<=9223372036854775807/\ac w w'
def eV(R:St.gr)(w:Ys)(e:Ending)(w':Ys):Prop:=
 ∃(A:Option Addr) (c:Nat),e=Yp (Ym #[Yj A R.2.1.length c,Yh Yn R.2.2.2])/\iJ w' A R.2.1/\R.2.1.length<=c/\c<=9223372036854775807/\ac w w'
theorem qC(raw:ByteArray)(w:Ys)(hr:raw.size<=4611686018427387904):Calls Tryz.prog 91 #[Yi raw] w (jX (mu raw) w):=by
 have HR:=aa (ks raw w hr);go_enter Tryz.func91,Tryz.ntmps91;go_wp2_with fail;refine HR.out.mono ?_;rintro e w2 ⟨hu,⟨mo,ah,tx,cuts,rfl,hB,h1,h2,h3,hD⟩|⟨a,er,her,rfl,hD⟩⟩
 ·have HI:=aa (pZ w2 w.1.size w.1.size ah tx cuts hB (by omega) (by omega) hu.size);have HU:=aa hu;have HD:=aa hD;clear hu hB hD HR;go_wp2_with fail;refine HI.out.mono ?_;rintro e w3 ⟨A,c,rfl,hI,hc1,hc2,hbl⟩;have HE:=aa (And.intro hI (ac.cn (Below.trans HU.out.below hbl)));have o0:=aa hc1;clear hI hbl hc1;go_wp2;go_ret3;unfold jX;rw[HD.out];exact⟨A,c,by simp only[List.length_append];rfl,HE.out.1,o0.out,hc2,HE.out.2⟩
 have hb:(er==0)=false:=by simpa using her
 have HU:=aa hu;have HD:=aa hD;clear hu hD HR;go_wp2;go_ret3;unfold jX;rw[HD.out];exact⟨none,0,rfl,λh=>absurd h (by simp),by simp,by omega,HU.out⟩
theorem Kh(raw:ByteArray)(w:Ys)(hr:raw.size<=4611686018427387904):Calls Tryz.prog 87 #[Yi raw] w (eV (mu raw) w):=by
 have HR:=aa (ks raw w hr);go_enter Tryz.func87,Tryz.ntmps87;go_wp2_with fail;refine HR.out.mono ?_;rintro e w2 ⟨hu,⟨mo,ah,tx,cuts,rfl,hB,h1,h2,h3,hD⟩|⟨a,er,her,rfl,hD⟩⟩
 ·have HI:=aa (pO w2 w.1.size w.1.size ah tx cuts raw.size hB (by omega) (by simpa using hu.size));have HU:=aa hu;have HD:=aa hD;clear hu hB hD HR;go_wp2_with fail;refine HI.out.mono ?_;rintro e w3 ⟨A,c,rfl,hI,hc1,hc2,hbl⟩;have HE:=aa (And.intro hI (ac.cn (Below.trans HU.out.below hbl)));have o0:=aa hc1;clear hI hbl hc1;go_wp2;go_ret2;unfold eV;rw[HD.out];exact⟨A,c,by simp,HE.out.1,by simpa using o0.out,hc2,HE.out.2⟩
 have hb:(er==0)=false:=by simpa using her
 have HU:=aa hu;have HD:=aa hD;clear hu hD HR;go_wp2;go_ret2;unfold eV;rw[HD.out];exact⟨none,0,rfl,λh=>absurd h (by simp),by simp,by omega,HU.out⟩
def dE(l:List UInt8):Nat × Int:=((St.eK St.bV l 0 0 [] [] [] 0).2.2.1,(St.eK St.bV l 0 0 [] [] [] 0).2.2.2)
theorem Oc(x:ByteArray):mu x=St.eK St.bV x.1.1 0 0 [] [] [] 0:=by unfold mu St.eK;rw[St.aC]
theorem lf(x:ByteArray):dE x.1.1=((mu x).2.2.1,(mu x).2.2.2):=by unfold dE;rw[Oc]
theorem E9:∀(fuel:Nat) (l:List UInt8) (a d:Nat) (f:List St.It) (cuts:List Nat) (op:List St.It) (c:Nat),(St.du St.bV fuel l a d f cuts op c).2.2.1<=a+l.length
 | 0,l,a,d,f,cuts,op,c=>by unfold St.du St.jH;split<;>simp
 | fuel+1,l,a,d,f,cuts,op,c=>by
  by_cases h0:l=[]
  ·subst h0;rw[St.gf];unfold St.jH;split<;>simp
  cases hs:St.bV l with
  | none=>rw[St.j7 fuel a d f cuts h0 hs];simp
  | some x=>
   obtain⟨k,t,n⟩:=x;obtain⟨hk,gu,fe,_⟩:=St.pq hs;cases hst:St.stepT op c k t with
   | none=>rw[St.mS fuel a d f cuts h0 hs (by omega) hst];simp
   | some y=>
    obtain⟨i,cK,c'⟩:=y
    by_cases hf:512<(St.aL f (k,t,i)).length\/1024<=cuts.length
    ·rw[St.j6 fuel a d f cuts h0 hs (by omega) hst hf];simp
    rw[St.je fuel a d f cuts h0 hs (by omega) hst hf];have h:=E9 fuel (l.drop n) (a+n) (a+n) (St.aL f (k,t,i)) (cuts++[d]) cK c';rw[List.length_drop]at h;omega
theorem xK(x:ByteArray):(mu x).2.2.1<=x.size:=by
 have:=E9 x.size x.1.1 0 0 [] [] [] 0
 rw[St.aC]at this;unfold mu;omega
end
section
def rv:String:=(Rows.documentLimitsRow.named).getD 1 "x"
def mJ(w:Ys):Prop:=Lib.TabIs Tryz.prog w rv .u64 Lib.pow10Tab
theorem mJ.ai{w w':Ys}(h:ac w w')(t:mJ w):mJ w':=by
 unfold mJ Lib.TabIs World.var? at t |-;cases hg:Program.globalNamed Tryz.prog rv with
 | none=>rw[hg]at t;simp at t
 | some g=>
  rw[hg]at t;simp only[Option.bind_some]at t |-
  have hlt:g<w.1.size:=by
   rcases Nat.lt_or_ge g w.1.size with h|h
   ·exact h
   rw[Array.getElem?_eq_none h]at t;simp at t
  rw[h.below.block g hlt];exact t
theorem M3{a b:Ys}(h:ac a b)(os:Array Obj):ac a (Go.Sort.grow b os):=by
 refine ac.mk ⟨h.below.os,h.below.tape,h.below.output,?_,λk hk=>?_⟩
 ·have:=h.below.size;unfold Go.Sort.grow;simp;omega
 unfold Go.Sort.grow;have:=h.below.size
 rw[Array.getElem?_append_left (by omega)];exact h.below.block k hk
theorem vG(n:Nat)(w:Ys)(h1:n<=4611686018427387904)(t:mJ w) :
  Calls Tryz.prog 124 #[Yh Yn n] w λe w'=>e=Yp (Yi ⟨(Lib.decDigits n).toArray⟩)/\ac w w':=by
 refine(Any.strconv_Itoa Tryz.Dd n (by omega) (by omega) w t).mono ?_;rintro e w' ⟨rfl,k,os,rfl⟩;refine⟨?_,M3 ((ac.refl w).drewN k) os⟩;unfold Lib.itoa;rw[if_neg (by omega)];simp
end
section
theorem kk(d:ByteArray)(w:Ys):Calls Tryz.prog 75 #[Yi d] w λe w'=>e=Yp (Yl (some ⟨w.1.size,0,none⟩))/\w'=w.alloc (Yo #[Yi d,Yh Yn 0,Yj none 0 0] 161):=by
 go_enter Tryz.func75,Tryz.ntmps75;go_wp2;go_ret;exact⟨rfl,rfl⟩
def jQ(w:Ys):Prop:=mJ w/\∃m:Int,0<w.1.size/\w.cell? ⟨0,0,none⟩=some (Yh Yn m)
theorem jQ.ai{w w':Ys}(h:jQ w)(u:ac w w'):jQ w':=by
 obtain⟨h1,m,h2,h3⟩:=h;exact⟨h1.ai u,m,Nat.lt_of_lt_of_le h2 u.size,(u.cell (p:=⟨0,0,none⟩) h2).trans h3⟩
def iC(d:ByteArray):List St.Pt × Nat × Int:=St.ij dE Lib.decDigits d.1.1
def aG(R:List St.Pt × Nat × Int)(w:Ys)(e:Ending)(w':Ys):Prop:=
 ∃(A:Option Addr) (c:Nat),e=Yp (Ym #[Yj A R.1.length c,Yh Yn (R.2.1:Int),Yh Yn R.2.2])/\bk w' A R.1/\R.1.length<=c/\c<=9223372036854775807/\ac w w'
theorem aG.err{R:List St.Pt × Nat × Int}{w w':Ys}{a:Nat}{er:Int}(h:R=([],a,er))(u:ac w w')(m:Int)(hm:m=a):aG R w (Yp (Ym #[Yj none 0 0,Yh Yn m,Yh Yn er])) w':=by
 subst h hm;exact⟨none,0,rfl,λh=>absurd h (by simp),by simp,by omega,u⟩
def SI(w:Ys)(d:ByteArray)(s3 s6:Value)(wr:Ys):Prop:=
 ∃(a r fuel:Nat) (s:St.PS),s3=Yh Yn a/\s6=Yh Yn r/\a<=d.size/\r<=a/\d.size-a<fuel/\s.2<=a/\s.1.length<=2*a/\PV wr w.1.size w.1.size d s/\iC d=St.jT d.1.1 (St.ez dE Lib.decDigits d.1.1 fuel a r s)/\ac w wr
theorem ef(b:List UInt8):((⟨#[60,47]⟩:ByteArray)++⟨b.toArray⟩++⟨#[62]⟩).1.1=St.dn b:=by
 simp[St.dn]
theorem Hv(d:ByteArray)(w:Ys)(hL:jQ w)(fU:d.size<=4611686018427387904):Calls Tryz.prog 84 #[Yi d] w (aG (iC d) w):=by
 have hlen:=St.aC d
 by_cases hbig:65536<d.size
 ·have hR:iC d=([],0,3):=by unfold iC St.ij;rw[if_pos (by omega)]
  have HR:=aa hR;have hb:(65536:Int)<d.size:=by omega
  clear hR hlen hL;go_enter Tryz.func84,Tryz.ntmps84;go_wp2;go_ret3;exact aG.err HR.out (ac.refl _) _ rfl
 have hb:¬(65536:Int)<d.size:=by omega
 have hd:d.size<=65536:=by omega
 have lJ:PV (w.alloc (Yo #[Yi d,Yh Yn 0,Yj none 0 0] 161)) w.1.size w.1.size d ([],0):=⟨Nat.le_refl _,Yj none 0 0,heap_alloc_new w _,World.ownsRow_nil _ _ _ _⟩
 have tF:iC d=St.jT d.1.1 (St.ez dE Lib.decDigits d.1.1 (d.size+1) 0 0 ([],0)):=by
  unfold iC;rw[St.qi (by omega),hlen]
 have jM:=aa (And.intro lJ (And.intro tF ((ac.refl w).alloc (Yo #[Yi d,Yh Yn 0,Yj none 0 0] 161))));have HLEN:=aa hlen;obtain⟨fx,m,hm0,CV⟩:=hL;have Cb:=aa fx;have Tk:=aa (show ∀W,ac w W->W.cell? ⟨0,0,none⟩=some (Yh Yn m)from λW hW=>(hW.cell (p:=⟨0,0,none⟩) hm0).trans CV);clear lJ tF hlen fx hm0 CV;go_enter Tryz.func84,Tryz.ntmps84;go_wp2_with (go_at_call 75;refine(kk d _).mono ?_;rintro e w' ⟨rfl,rfl⟩);go_loopw [3,6] (λs3 s6 wr=>SI w d s3 s6 wr) (λs3 _ _=>d.size+1-(intOf s3).toNat)
 case atStart=>exact⟨0,0,d.size+1,([],0),rfl,rfl,by omega,by omega,by omega,by simp,by simp,jM.out.1,jM.out.2.1,jM.out.2.2⟩
 case round=>
  obtain⟨a,r,fuel,s,rfl,rfl,ha,Rs,hfu,hs2,hs1,hP,hS,hu⟩:=hrel;have HP:=aa hP;have HS:=aa hS;have HU:=aa hu;have hsz:=hu.size;clear hP hS hu jM
  by_cases hlt:a<d.size
  ·obtain⟨fuel,rfl⟩:∃m,fuel=m+1:=⟨fuel-1,by omega⟩;have ek:=aa (show ¬d.1.1.length<=a by rw[HLEN.out];omega);have z:(a:Int)<d.size:=by omega
   have z2:(a:Int)<=d.size:=by omega
   obtain⟨x,hx⟩:∃x,d.extract a d.size=x:=⟨_,rfl⟩;have hxl:x.1.1=d.1.1.drop a:=by rw[<-hx,Lib.extract_data,List.take_of_length_le (by simp)]
   have hxs:x.size=d.size-a:=by rw[<-hx];simp
   have hout:=λW (hW:ac wr W)=>Ey x m W (Tk.out _ (HU.out.trans hW)) (by omega) (by omega)
   rw[hxl]at hout;cases ho:St.dF (d.1.1.drop a)with
   | none=>
    rw[ho]at hout;have HO:=aa hout;have HR:=aa (HS.out.trans (by rw[St.oz ek.out ho];rfl):iC d=([],a,2));clear hout ho hxl;go_wp2_with fail;refine(HO.out _ (ac.refl _)).mono ?_;rintro e w2 ⟨hu2,q,y,rfl⟩;have aX:=aa (HU.out.trans hu2);clear hu2 HO;go_wp2;go_ret3;exact aG.err HR.out aX.out _ rfl
   | some q=>
    obtain⟨n,b⟩:=q;rw[ho]at hout;obtain⟨gu,fe,cA,hbb⟩:=St.r8 ho (by intro h0;have:=congrArg List.length h0;simp at this;omega);simp at fe;have xB:∀W,ac wr W->Calls Tryz.prog 122 #[Yi x] W λe w'=>ac W w'/\e=Yp (Ym #[Yh Yn n,Yi ⟨b.toArray⟩,Yk true]):=hout
    by_cases hb0:b=[]
    ·subst hb0;have HST:=aa (HS.out.trans (by rw[St.jq ek.out ho]):iC d=St.jT d.1.1 (St.ez dE Lib.decDigits d.1.1 fuel (a+n) r s));have HO:=aa xB;clear hout xB ho hxl;go_wp2_with fail;refine(HO.out _ (ac.refl _)).mono ?_;rintro e w2 ⟨hu2,rfl⟩;have aX:=aa (HU.out.trans hu2);have gR:=aa (HP.out.ai hu2);clear hu2 HO;go_wp2;exact⟨⟨a+n,r,fuel,s,congrArg (Yh Yn) (by omega),rfl,by omega,by omega,by omega,by omega,by omega,gR.out,HST.out,aX.out⟩,by simp[intOf];omega⟩
    have hbk:=hbb hb0;obtain⟨bb,yH⟩:∃bb:ByteArray,(⟨b.toArray⟩:ByteArray)=bb:=⟨_,rfl⟩;have hbl:bb.1.1=b:=by rw[<-yH]
    have hbs:bb.size=b.length:=by rw[<-yH];show b.toArray.size=_;simp
    have Xd:(bb.toList==([]:List UInt8))=false:=by rw[jR,hbl];exact decide_eq_false hb0
    rw[yH]at xB;have HO:=aa xB;obtain⟨x2,hx2⟩:∃x2,d.extract (a+n) d.size=x2:=⟨_,rfl⟩;have tR:x2.1.1=d.1.1.drop (a+n):=by rw[<-hx2,Lib.extract_data,List.take_of_length_le (by simp)]
    have Hi:x2.size=d.size-(a+n):=by rw[<-hx2];simp
    obtain⟨eb,fa⟩:∃eb:ByteArray,(⟨#[60,47]⟩:ByteArray)++bb++⟨#[62]⟩=eb:=⟨_,rfl⟩;have tJ:eb.1.1=St.dn b:=by rw[<-fa,<-yH];exact ef b
    have UZ:eb.size=b.length+3:=by have:=congrArg List.length tJ;rw[St.aC]at this;rw[this];simp[St.dn]
    have bP:=λW (hW:ac wr W)=>Tryz.strings_Index x2 eb m W (by omega) (Tk.out _ (HU.out.trans hW))
    rw[tJ,tR]at bP;have y1:((a:Int)+n)<=d.size:=by omega
    have y2:(0:Int)<=(a:Int)+n:=by omega
    have hge:=Lib.index_ge (d.1.1.drop (a+n)) (St.dn b);have hno:=λhj he=>St.mZ (dE:=dE) (dig:=Lib.decDigits) (fuel:=fuel) (r:=r) (s:=s) ek.out ho hb0 hj he
    have Hb:=λhj he=>St.lM (dE:=dE) (dig:=Lib.decDigits) (fuel:=fuel) (r:=r) (s:=s) ek.out ho hb0 hj he
    have GV:=λj hj he=>St.oA (dE:=dE) (dig:=Lib.decDigits) (fuel:=fuel) (r:=r) (s:=s) (j:=j) ek.out ho hb0 hj he
    have BH:=λj hj he=>St.lx (dE:=dE) (dig:=Lib.decDigits) (fuel:=fuel) (r:=r) (s:=s) (j:=j) ek.out ho hb0 hj he
    have hroom:=λj (hj:Lib.index (d.1.1.drop (a+n)) (St.dn b)=(j:Nat))=>St.index_room hj (by simp[St.dn])
    have y3:¬9223372036854775807<2+bb.size:=by omega
    have y4:¬9223372036854775807<2+bb.size+1:=by omega
    have y5:((a:Int)+n).toNat=a+n:=by omega
    generalize Wy:Lib.index (d.1.1.drop (a+n)) (St.dn b)=zi at bP hge hno Hb GV BH hroom;have ep:=aa bP;clear bP hout xB ho hxl hbk hbb yH hbl tJ hb0 Wy
    by_cases hz:zi<0
    ·have hN:=hno hz;have tE:=Hb hz;rw[<-tR,lf]at hN tE;have eG:=λW=>qC x2 W (by omega)
     have hat:=xK x2;generalize mu x2=R at eG hat hN tE;obtain⟨rf,rc,iD,re⟩:=R;simp only at hN tE hat;have jd:=aa eG;have HN:=aa hN;have iy:=aa tE;clear eG hN tE hno Hb GV BH hroom tR;go_wp2_with fail;refine(HO.out _ (ac.refl _)).mono ?_;rintro e w2 ⟨hu2,rfl⟩;have aX:=aa hu2;clear hu2;go_wp2_with fail;refine(ep.out _ aX.out).mono ?_;rintro e w3 ⟨rfl,rfl⟩;go_wp2_with fail;refine(jd.out _).mono ?_;rintro e w6 ⟨A6,c6,rfl,_,_,_,dD⟩;have eu:=aa ((HU.out.trans aX.out).trans dD);clear dD jd ep HO aX
     by_cases hre:re=0
     ·subst hre;have HR:=aa (HS.out.trans (by rw[HN.out rfl,HLEN.out];rfl):iC d=([],d.size,2));clear HN iy HS;go_wp2;go_ret3;exact aG.err HR.out eu.out _ rfl
     have Fw:(re==0)=false:=by simpa using hre
     have L5:(re != 0)=true:=by simpa using hre
     have HR:=aa (HS.out.trans (by rw[iy.out hre];rfl):iC d=([],a+n+iD,re));clear HN iy HS;go_wp2;go_ret3;exact aG.err HR.out eu.out _ (by omega)
    obtain⟨j,rfl⟩:∃j:Nat,zi=(j:Int):=⟨zi.toNat,by omega⟩;have Fx:=hroom j rfl;rw[List.length_drop,HLEN.out]at Fx;have hel:(St.dn b).length=b.length+3:=by simp[St.dn]
    rw[hel]at Fx;have hE:=GV j rfl;have sJ:=BH j rfl;obtain⟨x3,hx3⟩:∃x3,d.extract (a+n) (a+n+j)=x3:=⟨_,rfl⟩;have hc3:St.a6 d.1.1 (a+n) (a+n+j)=x3.1.1:=by rw[<-hx3,eR]
    have Vi:x3.size<=d.size:=by rw[<-hx3];simp;omega
    rw[hc3,lf]at hE sJ;have eG:=λW=>qC x3 W (by omega)
    have hat:=xK x3;generalize mu x3=R at eG hat hE sJ;obtain⟨rf,rc,iD,re⟩:=R;simp only at hE sJ hat;have jd:=aa eG;have HE:=aa hE;have iI:=aa sJ;have y6:¬(j:Int)<0:=by omega
    have y7:((a:Int)+n+j).toNat=a+n+j:=by omega
    have y8:(a:Int)+n<=(a:Int)+n+j:=by omega
    have y9:(a:Int)+n+j<=d.size:=by omega
    clear eG hE sJ hno Hb GV BH hroom tR hel hc3;go_wp2_with fail;refine(HO.out _ (ac.refl _)).mono ?_;rintro e w2 ⟨hu2,rfl⟩;have aX:=aa hu2;clear hu2;go_wp2_with fail;refine(ep.out _ aX.out).mono ?_;rintro e w3 ⟨rfl,rfl⟩;go_wp2_with fail;refine(jd.out _).mono ?_;rintro e w6 ⟨A6,c6,rfl,_,_,_,dD⟩;have eu:=aa (aX.out.trans dD);clear dD jd ep HO aX
    by_cases hre:re=0
    ·subst hre;have HST:=aa (HS.out.trans (by rw[iI.out rfl]):iC d=St.jT d.1.1 (St.ez dE Lib.decDigits d.1.1 fuel (a+n+j+(b.length+3)) (r+1) (St.bi d.1.1 s (a+n) (a+n+j) (Lib.decDigits (r+1)))));have HIT:=aa (λW (hW:ac w6 W)=>vG (r+1) W (by omega) (Cb.out.ai ((HU.out.trans eu.out).trans hW)));have hr1:((r+1:Nat):Int)=(r:Int)+1:=by omega
     rw[hr1]at HIT;clear HE iI HS;go_wp2_with fail;refine(HIT.out _ (ac.refl _)).mono ?_;rintro e w7 ⟨rfl,bM⟩;have zC:=aa ((HP.out.ai eu.out).ai bM);have lE:=aa ((HU.out.trans eu.out).trans bM);have hun:=λW (hp:PV W w.1.size w.1.size d s) (hw:w.1.size<=W.1.size)=>wk W w.1.size w.1.size d ⟨(Lib.decDigits (r+1)).toArray⟩ s (a+n) (a+n+j) hp (by omega) (by omega) (by omega) fU (by omega) hw
     have q1:((a+n:Nat):Int)=(a:Int)+n:=by omega
     have q2:((a+n+j:Nat):Int)=(a:Int)+n+j:=by omega
     rw[q1,q2]at hun;have Ce:=aa hun;have L6:=lE.out.size;clear bM hun HIT eu HU HP q1 q2;go_wp2_with fail;refine(Ce.out _ zC.out L6).mono ?_;rintro e w8 ⟨rfl,hp8,hbl8,_,_⟩;have VM:=aa hp8;have mI:=aa (ac.cn (Below.trans lE.out.below hbl8));clear hp8 hbl8 Ce zC lE;go_wp2;exact⟨⟨a+n+j+(b.length+3),r+1,fuel,_,congrArg (Yh Yn) (by omega),congrArg (Yh Yn) (by omega),by omega,by omega,by omega,by first|(simp[St.bi];done)|(simp[St.bi];omega),by first|(simp[St.bi];done)|(simp[St.bi];omega),VM.out,HST.out,mI.out⟩,by simp[intOf];omega⟩
    have Fw:(re==0)=false:=by simpa using hre
    have L5:(re != 0)=true:=by simpa using hre
    have HR:=aa (HS.out.trans (by rw[HE.out hre];rfl):iC d=([],a+n+iD,re));have lE:=aa (HU.out.trans eu.out);clear HE iI HS HU eu;go_wp2;go_ret3;exact aG.err HR.out lE.out _ (by omega)
  have JI:a=d.size:=by omega
  have HL:=aa (vI wr w.1.size w.1.size d s HP.out (by omega) (by omega) (by omega) hsz);have HR:=aa (HS.out.trans (show St.jT d.1.1 (St.ez dE Lib.decDigits d.1.1 fuel a r s)=(St.cI d.1.1 s,0,0)by rw[St.iV (by rw[HLEN.out];omega)];rfl));have z:¬(a:Int)<d.size:=by omega
  go_wp2_with fail;refine HL.out.mono ?_;rintro e w3 ⟨A,c,rfl,lK,hq1,hq2,hbl⟩;have HE:=aa (And.intro lK (ac.cn (Below.trans HU.out.below hbl)));have mW:=aa hq1;clear lK hbl hq1 HL;go_wp2;go_ret3;unfold aG;rw[HR.out];exact⟨A,c,by simp[St.cI],HE.out.1,by simpa[St.cI]using mW.out,hq2,HE.out.2⟩
end
end Go.Proofs.YthoemdibbldndaaGreatDoor.Mk
namespace Go.Proofs.YthoemdibbldndaaGreatDoor.St
def yj(dE:List UInt8->Nat × Int)(d:List UInt8)(s:PS):Prop:=s.1.length % 2=0/\(∀i (h:i<s.1.length),s.1[i].1=decide (i % 2=1)/\(s.1[i].2.1=[] ↔ s.1[i].1=false)/\(s.1[i].1=true->(dE s.1[i].2.2).2=0))/\s.1.flatMap (·.2.2)=d.take s.2/\s.2<=d.length
theorem Me(dE:List UInt8->Nat × Int)(d:List UInt8):yj dE d ([],0):=⟨rfl,λi h=>by simp at h,by simp,by simp⟩
theorem zP(d:List UInt8)(a b:Nat)(h:a<=b):d.take a++a6 d a b=d.take b:=by
 unfold a6
 conv=>rhs;rw[<-List.take_append_drop a (d.take b)]
 rw[List.take_take,Nat.min_eq_left h]
theorem J9{dE:List UInt8->Nat × Int}{d:List UInt8}{s:PS}{a b:Nat}{key:List UInt8}(h:yj dE d s)(h1:s.2<=a)(h2:a<=b)(h3:b<=d.length)(hk:key≠[])(he:(dE (a6 d a b)).2=0):yj dE d (bi d s a b key):=by
 obtain⟨i1,i2,i3,i4⟩:=h;unfold bi;refine⟨by simp;omega,λi hi=>?_,?_,h3⟩
 ·simp only[List.length_append,List.length_cons,List.length_nil]at hi
  by_cases hlt:i<s.1.length
  ·simp only[List.getElem_append_left hlt];exact i2 i hlt
  simp only[List.getElem_append_right (Nat.le_of_not_lt hlt)];rcases(show i-s.1.length=0\/i-s.1.length=1 by omega)with hq|hq
  ·simp only[hq,List.getElem_cons_zero];refine⟨by rw[decide_eq_false (by omega)],by simp,by simp⟩
  simp only[hq,List.getElem_cons_succ,List.getElem_cons_zero];refine⟨by rw[decide_eq_true (by omega)],by simp[hk],λ_=>he⟩
 simp only[List.flatMap_append,List.flatMap_cons,List.flatMap_nil,List.append_nil];rw[i3,<-List.append_assoc,zP d _ _ h1,zP d _ _ h2]
def Cg(dE:List UInt8->Nat × Int)(d:List UInt8)(ps:List Pt):Prop:=ps.length % 2=1/\(∀i (h:i<ps.length),ps[i].1=decide (i % 2=1)/\(ps[i].2.1=[] ↔ ps[i].1=false)/\(ps[i].1=true->(dE ps[i].2.2).2=0))/\ps.flatMap (·.2.2)=d
theorem Md{dE:List UInt8->Nat × Int}{d:List UInt8}{s:PS}(h:yj dE d s):Cg dE d (cI d s):=by
 obtain⟨i1,i2,i3,i4⟩:=h;unfold cI;refine⟨by simp;omega,λi hi=>?_,?_⟩
 ·simp only[List.length_append,List.length_singleton]at hi
  by_cases hlt:i<s.1.length
  ·simp only[List.getElem_append_left hlt];exact i2 i hlt
  simp only[List.getElem_append_right (Nat.le_of_not_lt hlt)];have hq:i-s.1.length=0:=by omega
  simp only[hq,List.getElem_cons_zero];refine⟨by rw[decide_eq_false (by omega)],by simp,by simp⟩
 simp only[List.flatMap_append,List.flatMap_cons,List.flatMap_nil,List.append_nil];rw[i3];simp
end Go.Proofs.YthoemdibbldndaaGreatDoor.St
namespace Go.Proofs.YthoemdibbldndaaGreatDoor.St
theorem qx{d:List UInt8}{a:Nat}(h:¬d.length<=a):d.drop a≠[]:=by
 intro e;have:=congrArg List.length e
 simp at this;omega
theorem C8{dE:List UInt8->Nat × Int}{dig:Nat->List UInt8}(hd:∀n,dig n≠[]){d:List UInt8}:∀(fuel a r:Nat) (s s':PS),yj dE d s->s.2<=a->ez dE dig d fuel a r s=.ok s'->yj dE d s'
 | 0,a,r,s,s',hi,_,h=>by simp[ez]at h;subst h;exact hi
 | fuel+1,a,r,s,s',hi,ha,h=>by
  by_cases hl:d.length<=a
  ·rw[iV hl]at h;cases h;exact hi
  cases h1:dF (d.drop a)with
  | none=>rw[oz hl h1]at h;cases h
  | some x=>
   obtain⟨n,b⟩:=x;have hn:=r8 h1 (qx hl);rw[List.length_drop]at hn
   by_cases hb:b=[]
   ·subst hb;rw[jq hl h1]at h;exact C8 hd fuel _ _ s s' hi (by omega) h
   by_cases hj:Lib.index (d.drop (a+n)) (dn b)<0
   ·by_cases he:(dE (d.drop (a+n))).2=0
    ·rw[mZ hl h1 hb hj he]at h;cases h
    rw[lM hl h1 hb hj he]at h;cases h
   obtain⟨j,mi⟩:∃j:Nat,Lib.index (d.drop (a+n)) (dn b)=(j:Int):=⟨_,(Int.toNat_of_nonneg (by omega)).symm⟩
   by_cases he:(dE (a6 d (a+n) (a+n+j))).2=0
   ·rw[lx hl h1 hb mi he]at h;have hr:=index_room mi (by simp[dn]);rw[List.length_drop]at hr;refine C8 hd fuel _ _ _ s' (J9 hi (by omega) (by omega) (by omega) (hd _) he) ?_ h
    show a+n+j<=_
    omega
   rw[oA hl h1 hb mi he]at h;cases h
theorem vL{dE:List UInt8->Nat × Int}{dig:Nat->List UInt8}{d:List UInt8}:∀(fuel a r:Nat) (s:PS) (x:Nat),ez dE dig d fuel a r s≠.error (x,0)
 | 0,a,r,s,x=>by simp[ez]
 | fuel+1,a,r,s,x=>by
  intro h
  by_cases hl:d.length<=a
  ·rw[iV hl]at h;cases h
  cases h1:dF (d.drop a)with
  | none=>rw[oz hl h1]at h;simp at h
  | some y=>
   obtain⟨n,b⟩:=y
   by_cases hb:b=[]
   ·subst hb;rw[jq hl h1]at h;exact vL fuel _ _ s x h
   by_cases hj:Lib.index (d.drop (a+n)) (dn b)<0
   ·by_cases he:(dE (d.drop (a+n))).2=0
    ·rw[mZ hl h1 hb hj he]at h;simp at h
    rw[lM hl h1 hb hj he]at h;simp only[Except.error.injEq,Prod.mk.injEq]at h;exact he h.2
   obtain⟨j,mi⟩:∃j:Nat,Lib.index (d.drop (a+n)) (dn b)=(j:Int):=⟨_,(Int.toNat_of_nonneg (by omega)).symm⟩
   by_cases he:(dE (a6 d (a+n) (a+n+j))).2=0
   ·rw[lx hl h1 hb mi he]at h;exact vL fuel _ _ _ x h
   rw[oA hl h1 hb mi he]at h;simp only[Except.error.injEq,Prod.mk.injEq]at h;exact he h.2
theorem D5{dE:List UInt8->Nat × Int}{dig:Nat->List UInt8}(hd:∀n,dig n≠[]){d:List UInt8}(h:(ij dE dig d).2.2=0):Cg dE d (ij dE dig d).1:=by
 by_cases h0:65536<d.length
 ·unfold ij at h;rw[if_pos h0]at h;cases h
 rw[qi h0]at h |-;cases hr:ez dE dig d (d.length+1) 0 0 ([],0)with
 | error x=>
  obtain⟨a,er⟩:=x;rw[hr]at h;have:er=0:=h
  subst this;exact absurd hr (vL _ _ _ _ _)
 | ok s=>exact Md (C8 hd _ _ _ _ _ (Me _ _) (by simp) hr)
theorem vK{dE:List UInt8->Nat × Int}{dig:Nat->List UInt8}{d:List UInt8}:∀(fuel fuel' a r:Nat) (s:PS),d.length-a<=fuel->d.length-a<=fuel'->ez dE dig d fuel a r s=ez dE dig d fuel' a r s
 | 0,fuel',a,r,s,h,_=>by rw[iV (by omega),iV (by omega)]
 | fuel+1,0,a,r,s,_,h=>by rw[iV (by omega),iV (by omega)]
 | fuel+1,fuel'+1,a,r,s,h,h'=>by
  by_cases hl:d.length<=a
  ·rw[iV hl,iV hl]
  cases h1:dF (d.drop a)with
  | none=>rw[oz hl h1,oz hl h1]
  | some y=>
   obtain⟨n,b⟩:=y;have hn:=r8 h1 (qx hl)
   by_cases hb:b=[]
   ·subst hb;rw[jq hl h1,jq hl h1];exact vK fuel fuel' _ _ _ (by omega) (by omega)
   by_cases hj:Lib.index (d.drop (a+n)) (dn b)<0
   ·by_cases he:(dE (d.drop (a+n))).2=0
    ·rw[mZ hl h1 hb hj he,mZ hl h1 hb hj he]
    rw[lM hl h1 hb hj he,lM hl h1 hb hj he]
   obtain⟨j,mi⟩:∃j:Nat,Lib.index (d.drop (a+n)) (dn b)=(j:Int):=⟨_,(Int.toNat_of_nonneg (by omega)).symm⟩
   by_cases he:(dE (a6 d (a+n) (a+n+j))).2=0
   ·rw[lx hl h1 hb mi he,lx hl h1 hb mi he];exact vK fuel fuel' _ _ _ (by omega) (by omega)
   rw[oA hl h1 hb mi he,oA hl h1 hb mi he]
end Go.Proofs.YthoemdibbldndaaGreatDoor.St
namespace Go.Proofs.YthoemdibbldndaaGreatDoor.St
def F8:List (List UInt8):=[[98,114],[105,109,103,32,97]]
def Bl:List (List UInt8):=[[98],[105],[97,32,104,61,49]]
inductive eP (ns:Bool):List It->List It->Nat->Prop
 | nil:eP ns [] [] 0
 | text {f op:List It} {c:Nat} (t:List UInt8) (h:eP ns f op c):eP ns (aL f (1,t,0)) op c
 | slot {f op:List It} {c:Nat} (t:List UInt8) (ht:aE t=true) (h:eP ns f op c):eP ns (aL f (5,t,0)) op c
 | empty {f op:List It} {c:Nat} (t:List UInt8) (ht:t∈F8) (h:eP ns f op c):eP ns (aL f (4,t,(c:Int)+1)) op (c+1)
 | opened {f op:List It} {c:Nat} (t:List UInt8) (ht:t∈Bl) (h:eP ns f op c):eP ns (aL f (2,t,(c:Int)+1)) (op++[(2,t,(c:Int)+1)]) (c+1)
 | closed {f op:List It} {c:Nat} (k:Nat) (hk:k<op.length) (hl:ns=true->k+1=op.length) (h:eP ns f op c):eP ns (aL f (3,nameOf op[k].2.1,op[k].2.2)) (op.take k++op.drop (k+1)) c
 | stray {f op:List It} {c:Nat} (hn:ns=false) (h:eP ns f op c):eP ns (aL f (3,[98],(c:Int)+1)) op (c+1)
theorem eP.nm{ns:Bool}{f op:List It}{c:Nat}(h:eP ns f op c):Nm f:=by
 induction h with
 | nil=>exact nQ
 | text t h ih=>exact eH ih _
 | slot t ht h ih=>exact eH ih _
 | empty t ht h ih=>exact eH ih _
 | opened t ht h ih=>exact eH ih _
 | closed k hk hl h ih=>exact eH ih _
 | stray hn h ih=>exact eH ih _
theorem eP.small{ns:Bool}{f op:List It}{c:Nat}(h:eP ns f op c):∀y∈op,y.2.1.length<=5/\y.1=2:=by
 induction h with
 | nil=>intro y hy;cases hy
 | text t h ih=>exact ih
 | slot t ht h ih=>exact ih
 | empty t ht h ih=>exact ih
 | opened t ht h ih=>
  intro y hy;rcases List.mem_append.1 hy with hy|hy
  ·exact ih y hy
  simp at hy;subst hy;simp[Bl]at ht;rcases ht with rfl|rfl|rfl<;>simp
 | closed k hk hl h ih=>
  intro y hy;rcases List.mem_append.1 hy with hy|hy
  ·exact ih y (List.mem_of_mem_take hy)
  exact ih y (List.mem_of_mem_drop hy)
 | stray hn h ih=>exact ih
theorem vM(l:List UInt8):(nameOf l).length<=l.length:=(List.takeWhile_prefix _).length_le
end Go.Proofs.YthoemdibbldndaaGreatDoor.St
namespace Go.Proofs.YthoemdibbldndaaGreatDoor.St
def ob(x:It):Prop:=(x.1=1/\x.2.2=0)\/(x.1=5/\aE x.2.1=true/\x.2.2=0)\/((x.1=2\/x.1=4)/\aN x.2.1=true/\bC (nameOf x.2.1)=false/\1<=x.2.2/\x.2.2<=999)\/(x.1=3/\aE x.2.1=true/\bC x.2.1=false/\1<=x.2.2/\x.2.2<=999)
theorem rS(k:Int):aQ k=true ↔ k=2\/k=3\/k=4:=by unfold aQ;simp
theorem K0{t:List UInt8}(h:t∈Bl):aN t=true/\bC (nameOf t)=false/\aE (nameOf t)=true:=by
 simp[Bl]at h;rcases h with rfl|rfl|rfl<;>decide
theorem R1{t:List UInt8}(h:t∈F8):aN t=true/\bC (nameOf t)=false:=by
 simp[F8]at h;rcases h with rfl|rfl<;>decide
theorem gk{f:List It}{x y:It}(h:y∈aL f x):y∈f\/y=x\/(y.1=1/\y.2.2=0/\x.1=1):=by
 rcases cT f with rfl|⟨a,b,rfl⟩
 ·rw[eB]at h
  split at h
  ·rename_i h1
   split at h
   ·cases h
   simp at h;subst h;exact .inr (.inr ⟨rfl,rfl,h1⟩)
  simp at h;exact .inr (.inl h)
 rw[cU]at h
 split at h
 ·rename_i h1
  split at h
  ·exact .inl h
  split at h
  ·rcases List.mem_append.1 h with h|h
   ·exact .inl (List.mem_append_left _ h)
   simp at h;subst h;exact .inr (.inr ⟨rfl,rfl,h1⟩)
  rcases List.mem_append.1 h with h|h
  ·exact .inl h
  simp at h;subst h;exact .inr (.inr ⟨rfl,rfl,h1⟩)
 rcases List.mem_append.1 h with h|h
 ·exact .inl h
 simp at h;exact .inr (.inl h)
theorem io{f:List It}{x:It}(h:x.1≠1):aL f x=f++[x]:=by unfold aL;rw[if_neg h]
theorem kr(f:List It)(x:It):aM (f++[x])=aM f++(if x.1=1 then x.2.1.map (λc=>((1:Int),[c],(0:Int)))else[x]):=by simp[aM]
theorem AS(f:List It)(t:List UInt8):aM (aL f (1,t,0))=aM f++t.map (λc=>((1:Int),[c],(0:Int))):=by
 rcases cT f with rfl|⟨a,b,rfl⟩
 ·rw[eB];simp only[if_true]
  split
  ·rename_i h;subst h;simp[aM]
  simp[aM]
 rw[cU];simp only[if_true]
 split
 ·rename_i h;subst h;simp
 split
 ·rename_i h1
  rw[kr,kr,if_pos h1];simp
 rw[kr (a++[b])];simp
theorem Kn(t:List UInt8)(op:List It)(c:Nat):fy (t.map (λc=>((1:Int),[c],(0:Int)))) op c=some (op,c):=by
 induction t with
 | nil=>rfl
 | cons d t ih=>
  rw[List.map_cons,fy];simp only[stepT];exact ih
def eX(f:List It):Prop:=f.Pairwise λy x=>aQ x.1=true->bE x y=false
structure iK (f op:List It) (c:Nat):Prop where
 nm:Nm f
 items:∀x∈f,(x.1=1/\x.2.2=0)\/(x.1=5/\aE x.2.1=true/\x.2.2=0)\/((x.1=2\/x.1=4)/\aN x.2.1=true/\bC (nameOf x.2.1)=false/\1<=x.2.2/\x.2.2<=c)\/(x.1=3/\aE x.2.1=true/\bC x.2.1=false/\1<=x.2.2/\x.2.2<=c)
 bE:eX f
 ok:fy (aM f) [] 0=some (op,c)
 opens:∀o∈op,o.1=2/\o.2.1∈Bl/\1<=o.2.2/\o.2.2<=c/\∀y∈f,aQ y.1=true->y.2.2=o.2.2->y=o
 apart:op.Pairwise λa b=>a.2.2≠b.2.2
theorem vm{x y:It}(h:y.2.2≠x.2.2):bE x y=false:=by unfold bE;simp[h]
theorem Cn{x y:It}(h:aQ y.1=false):bE x y=false:=by unfold bE;simp[h]
theorem iW{f:List It}{x:It}(h:eX f)(hx:aQ x.1=true->∀y∈f,bE x y=false):eX (f++[x]):=by
 unfold eX;rw[List.pairwise_append];exact⟨h,by simp,λy hy z hz=>by simp at hz;subst hz;exact λht=>hx ht y hy⟩
theorem Dt{f g:List It}(h:eX (f++g)):eX f:=(List.pairwise_append.1 h).1
theorem Du{f:List It}(h:eX f)(t:List UInt8):eX (aL f (1,t,0)):=by
 have hn:∀u:List UInt8,aQ ((1,u,0):It).1=true->False:=λu hu=>by simp[aQ]at hu
 rcases cT f with rfl|⟨a,b,rfl⟩
 ·rw[eB];simp only[if_true]
  split
  ·exact List.Pairwise.nil
  simp[eX]
 rw[cU];simp only[if_true]
 split
 ·exact h
 split
 ·exact iW (Dt h) λhu=>(hn _ hu).elim
 exact iW h λhu=>(hn _ hu).elim
theorem IB:iK [] [] 0:=⟨nQ,(λ_ h=>by cases h),List.Pairwise.nil,rfl,(λ_ h=>by cases h),List.Pairwise.nil⟩
theorem EL{f op:List It}{c:Nat}(h:iK f op c)(t:List UInt8):iK (aL f (1,t,0)) op c:=by
 refine⟨eH h.nm _,λx hx=>?_,Du h.bE t,?_,λo ho=>?_,h.apart⟩
 ·rcases gk hx with hx|rfl|⟨h1,h2,_⟩
  ·exact h.items x hx
  ·exact .inl ⟨rfl,rfl⟩
  exact .inl ⟨h1,h2⟩
 ·rw[AS,kI _ _ _ _ h.ok];exact Kn _ _ _
 obtain⟨h1,h2,h3,h4,h5⟩:=h.opens o ho;refine⟨h1,h2,h3,h4,λy hy ht he=>?_⟩;rcases gk hy with hy|rfl|⟨g1,_,_⟩
 ·exact h5 y hy ht he
 ·simp[aQ]at ht
 rw[g1]at ht;simp[aQ]at ht
theorem EK{f op:List It}{c:Nat}(h:iK f op c)(t:List UInt8)(hn:aE t=true):iK (aL f (5,t,0)) op c:=by
 refine⟨eH h.nm _,λx hx=>?_,?_,?_,λo ho=>?_,h.apart⟩
 ·rcases gk hx with hx|rfl|⟨h1,h2,_⟩
  ·exact h.items x hx
  ·exact .inr (.inl ⟨rfl,hn,rfl⟩)
  exact .inl ⟨h1,h2⟩
 ·rw[io (by simp)];exact iW h.bE λhu=>by simp[aQ]at hu
 ·rw[io (by simp),kr,kI _ _ _ _ h.ok];rfl
 obtain⟨h1,h2,h3,h4,h5⟩:=h.opens o ho;refine⟨h1,h2,h3,h4,λy hy ht he=>?_⟩;rcases gk hy with hy|rfl|⟨g1,_,_⟩
 ·exact h5 y hy ht he
 ·simp[aQ]at ht
 rw[g1]at ht;simp[aQ]at ht
theorem J4{f op:List It}{c:Nat}(h:iK f op c):∀y∈f,y.2.2<=c:=by
 intro y hy;rcases h.items y hy with⟨_,h2⟩|⟨_,_,h2⟩|⟨_,_,_,_,h2⟩|⟨_,_,_,_,h2⟩<;>omega
theorem Da{c:Nat}{x:It}(h:(x.1=1/\x.2.2=0)\/(x.1=5/\aE x.2.1=true/\x.2.2=0)\/((x.1=2\/x.1=4)/\aN x.2.1=true/\bC (nameOf x.2.1)=false/\1<=x.2.2/\x.2.2<=c)\/(x.1=3/\aE x.2.1=true/\bC x.2.1=false/\1<=x.2.2/\x.2.2<=c)) :
  (x.1=1/\x.2.2=0)\/(x.1=5/\aE x.2.1=true/\x.2.2=0)\/((x.1=2\/x.1=4)/\aN x.2.1=true/\bC (nameOf x.2.1)=false/\1<=x.2.2/\x.2.2<=((c+1:Nat):Int))\/(x.1=3/\aE x.2.1=true/\bC x.2.1=false/\1<=x.2.2/\x.2.2<=((c+1:Nat):Int)):=by
 rcases h with h|h|⟨h1,h2,h3,h4,h5⟩|⟨h1,h2,h3,h4,h5⟩
 ·exact .inl h
 ·exact .inr (.inl h)
 ·exact .inr (.inr (.inl ⟨h1,h2,h3,h4,by omega⟩))
 exact .inr (.inr (.inr ⟨h1,h2,h3,h4,by omega⟩))
theorem D7{f op:List It}{c:Nat}(h:iK f op c)(t:List UInt8)(hn:t∈F8):iK (aL f (4,t,(c:Int)+1)) op (c+1):=by
 have aa:=J4 h;obtain⟨q1,q2⟩:=R1 hn;refine⟨eH h.nm _,λx hx=>?_,?_,?_,λo ho=>?_,h.apart⟩
 ·rcases gk hx with hx|rfl|⟨h1,h2,_⟩
  ·exact Da (h.items x hx)
  ·exact .inr (.inr (.inl ⟨.inr rfl,q1,q2,by simp only;omega,by simp only;omega⟩))
  exact .inl ⟨h1,h2⟩
 ·rw[io (by simp)];exact iW h.bE λ_ y hy=>vm (by have:=aa y hy;simp only;omega)
 ·rw[io (by simp),kr,kI _ _ _ _ h.ok];simp[fy,stepT]
 obtain⟨h1,h2,h3,h4,h5⟩:=h.opens o ho;refine⟨h1,h2,h3,by omega,λy hy ht he=>?_⟩;rcases gk hy with hy|rfl|⟨g1,_,_⟩
 ·exact h5 y hy ht he
 ·simp only at he;omega
 rw[g1]at ht;simp[aQ]at ht
theorem EJ{f op:List It}{c:Nat}(h:iK f op c)(t:List UInt8)(hn:t∈Bl):iK (aL f (2,t,(c:Int)+1)) (op++[(2,t,(c:Int)+1)]) (c+1):=by
 have aa:=J4 h;obtain⟨q1,q2,q3⟩:=K0 hn;refine⟨eH h.nm _,λx hx=>?_,?_,?_,λo ho=>?_,?_⟩
 ·rcases gk hx with hx|rfl|⟨h1,h2,_⟩
  ·exact Da (h.items x hx)
  ·exact .inr (.inr (.inl ⟨.inl rfl,q1,q2,by simp only;omega,by simp only;omega⟩))
  exact .inl ⟨h1,h2⟩
 ·rw[io (by simp)];exact iW h.bE λ_ y hy=>vm (by have:=aa y hy;simp only;omega)
 ·rw[io (by simp),kr,kI _ _ _ _ h.ok];simp[fy,stepT]
 ·rcases List.mem_append.1 ho with ho|ho
  ·obtain⟨h1,h2,h3,h4,h5⟩:=h.opens o ho;refine⟨h1,h2,h3,by omega,λy hy ht he=>?_⟩;rcases gk hy with hy|rfl|⟨g1,_,_⟩
   ·exact h5 y hy ht he
   ·simp only at he;omega
   rw[g1]at ht;simp[aQ]at ht
  simp at ho;subst ho;refine⟨rfl,hn,by simp only;omega,by simp only;omega,λy hy ht he=>?_⟩;rcases gk hy with hy|rfl|⟨g1,_,_⟩
  ·have:=aa y hy;simp only at he;omega
  ·rfl
  rw[g1]at ht;simp[aQ]at ht
 rw[List.pairwise_append];refine⟨h.apart,by simp,λa ha b hb=>?_⟩;simp at hb;subst hb;have:=(h.opens a ha).2.2.2.1
 simp only;omega
theorem D6{f op:List It}{o:It}{c:Nat}(h:iK f (op++[o]) c):iK (aL f (3,nameOf o.2.1,o.2.2)) op c:=by
 obtain⟨o1,o2,o3,o4,o5⟩:=h.opens o (by simp);obtain⟨q1,q2,q3⟩:=K0 o2;have hap:=List.pairwise_append.1 h.apart;refine⟨eH h.nm _,λx hx=>?_,?_,?_,λp hp=>?_,hap.1⟩
 ·rcases gk hx with hx|rfl|⟨h1,h2,_⟩
  ·exact h.items x hx
  ·exact .inr (.inr (.inr ⟨rfl,q3,q2,o3,o4⟩))
  exact .inl ⟨h1,h2⟩
 ·rw[io (by simp)];refine iW h.bE λ_ y hy=>?_
  cases ht:aQ y.1
  ·exact Cn ht
  by_cases he:y.2.2=o.2.2
  ·have:=o5 y hy ht he
   subst this;unfold bE;simp[o1]
  exact vm (by simpa using he)
 ·rw[io (by simp),kr,kI _ _ _ _ h.ok];simp[fy,stepT]
 obtain⟨h1,h2,h3,h4,h5⟩:=h.opens p (by simp[hp]);refine⟨h1,h2,h3,h4,λy hy ht he=>?_⟩;rcases gk hy with hy|rfl|⟨g1,_,_⟩
 ·exact h5 y hy ht he
 ·have:=hap.2.2 p hp o (by simp)
  simp only at he;exact absurd he.symm this
 rw[g1]at ht;simp[aQ]at ht
theorem LJ{f op:List It}{c:Nat}(h:eP true f op c):iK f op c:=by
 induction h with
 | nil=>exact IB
 | text t h ih=>exact EL ih t
 | slot t ht h ih=>exact EK ih t ht
 | empty t ht h ih=>exact D7 ih t ht
 | opened t ht h ih=>exact EJ ih t ht
 | @closed f op c k hk hl h ih=>
  have hk2:=hl rfl;have e1:op.drop (k+1)=[]:=List.drop_of_length_le (by omega)
  have e2:op=op.take k++[op[k]]:=by
   conv=>lhs;rw[<-List.take_append_drop k op,List.drop_eq_getElem_cons hk,e1]
  rw[e1,List.append_nil];rw[e2]at ih;have:=D6 ih
  simpa using this
 | stray hn h ih=>cases hn
structure Ss (f:List It):Prop where
 nm:Nm f
 items:∀x∈f,ob x
 bE:eX f
 ok:∃c,fy (aM f) [] 0=some ([],c)
theorem Jw{f:List It}{c:Nat}(h:eP true f [] c)(hc:c<=999):Ss f:=by
 have hi:=LJ h;refine⟨hi.nm,λx hx=>?_,hi.bE,c,hi.ok⟩;rcases hi.items x hx with h|h|⟨h1,h2,h3,h4,h5⟩|⟨h1,h2,h3,h4,h5⟩
 ·exact .inl h
 ·exact .inr (.inl h)
 ·exact .inr (.inr (.inl ⟨h1,h2,h3,h4,by omega⟩))
 exact .inr (.inr (.inr ⟨h1,h2,h3,h4,by omega⟩))
theorem Mv{f:List It}(h:∀x∈f,ob x):∀p∈aM f,tc p:=by
 intro p hp;unfold aM at hp;obtain⟨x,hx,hp⟩:=List.mem_flatMap.1 hp;have hg:=h x hx
 split at hp
 ·obtain⟨c,_,rfl⟩:=List.mem_map.1 hp;exact .inl ⟨c,rfl⟩
 rename_i h1
 simp at hp;subst hp;obtain⟨k,t,i⟩:=p;simp only[ob]at hg h1;rcases hg with⟨g,_⟩|⟨rfl,g,rfl⟩|⟨rfl|rfl,g1,g2,_⟩|⟨rfl,g1,g2,_⟩
 ·exact absurd g h1
 ·exact .inr (.inl ⟨t,rfl,g⟩)
 ·exact .inr (.inr (.inl ⟨t,i,.inl rfl,g1,g2⟩))
 ·exact .inr (.inr (.inl ⟨t,i,.inr rfl,g1,g2⟩))
 exact .inr (.inr (.inr ⟨t,i,rfl,g1,g2⟩))
end Go.Proofs.YthoemdibbldndaaGreatDoor.St
namespace Go.Proofs.YthoemdibbldndaaGreatDoor.St
def ta(b R:List UInt8):Prop:=∀t j,j<R.length->Lib.occAt (R++t) (dn b) j=false
theorem O1(b:List UInt8):ta b []:=λt j h=>by simp at h
theorem O0{b R S:List UInt8}(h:ta b R)(k:ta b S):ta b (R++S):=by
 intro t j hj
 by_cases hlt:j<R.length
 ·rw[List.append_assoc];exact h _ j hlt
 have:=k t (j-R.length) (by rw[List.length_append]at hj;omega)
 unfold Lib.occAt at this |-;rw[List.append_assoc,List.drop_append,List.drop_of_length_le (by omega),List.nil_append];exact this
theorem pu{b R:List UInt8}(h:∀c∈R,c.toNat≠60):ta b R:=by
 intro t j hj;unfold Lib.occAt
 have e:(R++t).drop j=R[j] :: (R++t).drop (j+1):=by
  rw[List.drop_eq_getElem_cons (by simp;omega),List.getElem_append_left hj]
 rw[e];have hc:=h R[j] (List.getElem_mem hj)
 show((60:UInt8)==R[j]&&_)=false
 have:((60:UInt8)==R[j])=false:=by
  rw[beq_eq_false_iff_ne];intro e;rw[<-e]at hc;exact hc rfl
 rw[this];rfl
theorem yV{b u:List UInt8}(hb:bC b=true)(hu:∀c∈u,c.toNat≠62/\c.toNat≠60)(h:u≠47 :: b):ta b ([60]++u++[62]):=by
 intro t j hj;cases j with
 | zero=>
  rw[Bool.eq_false_iff];intro e;unfold Lib.occAt at e;rw[List.drop_zero]at e;obtain⟨x,hx⟩:=List.isPrefixOf_iff_prefix.1 e
  have CK:∀c∈b,c.toNat≠62:=by
   unfold bC at hb;rw[decide_eq_true_eq]at hb;rcases hb with rfl|rfl|rfl|rfl|rfl<;>intro c hc<;>simp at hc<;>rcases hc with rfl|rfl|rfl|rfl|rfl<;>decide
  have e2:u++62 :: t=47 :: b++62 :: x:=by
   have:(60:UInt8) :: (u++62 :: t)=60 :: (47 :: b++62 :: x):=by simpa[dn]using hx.symm
   simpa using this
  have tw:∀(v w:List UInt8),(∀c∈v,c.toNat≠62)->(v++62 :: w).takeWhile (λc=>decide (c.toNat≠62))=v:=λv w hv=>by
   rw[List.takeWhile_append_of_pos (λc hc=>decide_eq_true (hv c hc)),List.takeWhile_cons_of_neg (by simp)];simp
  have:=congrArg (List.takeWhile (λc:UInt8=>decide (c.toNat≠62))) e2
  rw[tw u t (λc hc=>(hu c hc).1),tw (47 :: b) x (λc hc=>by rcases List.mem_cons.1 hc with rfl|hc;decide;exact CK c hc)]at this;exact h this
 | succ j=>
  have hf:=pu (b:=b) (R:=u++[62]) (λc hc=>by
   rcases List.mem_append.1 hc with hc|hc
   ·exact(hu c hc).2
   simp at hc;subst hc;decide)
  have:=hf t j (by simp at hj |-;omega)
  unfold Lib.occAt at this |-;simpa using this
def BA(p:It)(b:List UInt8):Prop:=b=aK 1 p\/(p=(1,[62],0)/\b=[38,103,116,59])\/(p=(1,[125],0)/\b=[38,114,98,59])
theorem Ei{p:It}{b:List UInt8}(h:tc p)(hf:BA p b):j2 bV b p:=by
 rcases hf with rfl|⟨rfl,rfl⟩|⟨rfl,rfl⟩
 ·exact xJ h
 ·exact LP
 exact My
theorem Lw(c:UInt8):∀d∈bj 1 c,d.toNat≠60:=by
 unfold bj;rw[if_pos rfl];intro d hd
 split at hd
 ·simp at hd;rcases hd with rfl|rfl|rfl|rfl<;>decide
 split at hd
 ·simp at hd;rcases hd with rfl|rfl|rfl|rfl|rfl<;>decide
 split at hd
 ·simp at hd;rcases hd with rfl|rfl|rfl|rfl<;>decide
 rename_i h _ _
 simp at hd;subst hd;exact h
theorem Js{b:List UInt8}(hb:bC b=true){p:It}{R:List UInt8}(h:tc p)(hf:BA p R):ta b R:=by
 rcases hf with rfl|⟨rfl,rfl⟩|⟨rfl,rfl⟩
 ·rcases h with⟨c,rfl⟩|⟨t,rfl,ht⟩|⟨t,i,rfl|rfl,ht,hn⟩|⟨t,i,rfl,ht,hn⟩
  ·have e:aK 1 (1,[c],0)=bj 1 c:=by simp[aK]
   rw[e];exact pu (Lw c)
  ·have e:aK 1 (5,t,0)=[123]++t++[125]:=by simp[aK]
   rw[e];refine pu λc hc=>?_
   simp at hc;rcases hc with rfl|hc|rfl
   ·decide
   ·exact(rj ht c hc).2.1
   decide
  ·have e:aK 1 (2,t,i)=[60]++t++[62]:=by simp[aK]
   rw[e];exact yV hb (lX ht) (λe=>(lY ht).2.1 (by rw[e];rfl))
  ·have e:aK 1 (4,t,i)=[60]++(t++[47])++[62]:=by simp[aK]
   rw[e];refine yV hb (λc hc=>?_) (λe=>?_)
   ·rcases List.mem_append.1 hc with hc|hc
    ·exact lX ht c hc
    simp at hc;subst hc;decide
   obtain⟨h0,h1,_⟩:=lY ht;cases t with
   | nil=>exact h0 rfl
   | cons c r=>simp at e;simp[e.1]at h1
  have e:aK 1 (3,t,i)=[60]++(47 :: t)++[62]:=by simp[aK]
  rw[e];refine yV hb (λc hc=>?_) (λe=>?_)
  ·rcases List.mem_cons.1 hc with rfl|hc
   ·decide
   have:=rj ht c hc;exact⟨this.1,this.2.1⟩
  simp at e;subst e;rw[hb]at hn;cases hn
 ·exact pu (by simp)
 exact pu (by simp)
theorem CG{b:List UInt8}(hb:bC b=true):∀ {ps:List (List UInt8 × It)},(∀q∈ps,tc q.2/\BA q.2 q.1)->ta b (a8 ps)
 | [],_=>O1 b
 | p :: ps,h=>O0 (Js hb (h p (by simp)).1 (h p (by simp)).2) (CG hb λq hq=>h q (by simp[hq]))
theorem Hk{b R:List UInt8}(h:ta b R)(t:List UInt8):Lib.index (R++(dn b++t)) (dn b)=(R.length:Int):=by
 refine Lib.index_first (by simp) ?_ λj hj=>h _ j hj
 unfold Lib.occAt;rw[List.drop_left];exact List.isPrefixOf_iff_prefix.2 (List.prefix_append _ _)
theorem Hz{b at' rest:List UInt8}(hb:bC b=true)(hc:aN (b++at')=true)(hn:nameOf (b++at')=b):dF ([60]++(b++at')++[62]++rest)=some ((b++at').length+2,b):=by
 have h1:=ya (rest:=rest) (λc hcc=>(lX hc c hcc).1) (Bi hc);have hh:([60]++(b++at')++[62]++rest).head?=some 60:=by simp
 have hp:([60,33,45,45]:List UInt8).isPrefixOf ([60]++(b++at')++[62]++rest)=false:=by
  rw[Bool.eq_false_iff];intro e;rw[wS e]at h1;cases h1
 rw[na hh hp,h1];simp only;rw[hn,if_pos hb];simp
def jr(r:Nat):List UInt8:=if r=0 then[112]else if r=1 then[108,105]else[116,105,116,108,101]
def od(r:Nat):List UInt8:=if r=0 then[]else[32,99,61,34,49,34]
def lg(r:Nat):List UInt8:=if r=0 then[]else if r=1 then[10]else[60,104,114,47,62]
def jp(h:Nat):List UInt8:=if h=0 then[]else if h=1 then[60,104,116,109,108,62]else[60,33,45,45,32,60,112,62,32,45,45,62,120]
theorem Mn(r q:Nat):bC (jr r)=true/\aN (jr r++od q)=true/\nameOf (jr r++od q)=jr r:=by
 unfold jr od
 by_cases h0:r=0<;>by_cases h1:r=1<;>by_cases h2:q=0<;>simp only[h0,h1,h2,if_true,if_false]<;>decide
section
variable {dE:List UInt8->Nat × Int} {dig:Nat->List UInt8} {d:List UInt8}
theorem pT{d x y:List UInt8}{a:Nat}(h:d.drop a=x++y):d.drop (a+x.length)=y:=by rw[<-List.drop_drop,h,List.drop_left]
theorem ov{d x:List UInt8}{a:Nat}(h:d.drop a=x)(h0:x≠[]):¬d.length<=a:=by
 intro e;rw[List.drop_of_length_le e]at h;exact h0 h.symm
theorem Cq{d x y:List UInt8}{a:Nat}(h:d.drop a=x++y):a6 d a (a+x.length)=x:=by
 unfold a6;rw[List.drop_take,h,show a+x.length-a=x.length by omega,List.take_left]
def n7(dE:List UInt8->Nat × Int)(dig:Nat->List UInt8)(d:List UInt8)(a r:Nat)(s:PS):Except (Nat × Int) PS:=ez dE dig d (d.length-a) a r s
theorem Dk{fuel a r:Nat}{s:PS}(h:d.length-a<=fuel):ez dE dig d fuel a r s=n7 dE dig d a r s:=vK _ _ _ _ _ h (Nat.le_refl _)
theorem OV{a r:Nat}{s:PS}(h:d.length<=a):n7 dE dig d a r s=.ok s:=iV h
theorem CJ{d:List UInt8}{a:Nat}(h:¬d.length<=a):∃m,d.length-a=m+1/\∀n,1<=n->d.length-(a+n)<=m:=⟨d.length-a-1,by omega,λn hn=>by omega⟩
theorem pr{a r n:Nat}{s:PS}(h:¬d.length<=a)(h1:dF (d.drop a)=some (n,[])):n7 dE dig d a r s=n7 dE dig d (a+n) r s:=by
 obtain⟨m,hm,h2⟩:=CJ h;have hn:=r8 h1 (qx h)
 conv=>lhs;unfold n7
 rw[hm,jq h h1];exact Dk (h2 n hn.1)
theorem Ml{a r n j:Nat}{b:List UInt8}{s:PS}(h:¬d.length<=a)(h1:dF (d.drop a)=some (n,b))(hb:b≠[])(hj:Lib.index (d.drop (a+n)) (dn b)=(j:Int))(he:(dE (a6 d (a+n) (a+n+j))).2=0) :
  n7 dE dig d a r s=n7 dE dig d (a+n+j+(b.length+3)) (r+1) (bi d s (a+n) (a+n+j) (dig (r+1))):=by
 obtain⟨m,hm,h2⟩:=CJ h
 conv=>lhs;unfold n7
 rw[hm,lx h h1 hb hj he];refine Dk ?_;have:=h2 (n+j+(b.length+3)) (by omega)
 omega
theorem KS(h:¬65536<d.length):ij dE dig d=jT d (n7 dE dig d 0 0 ([],0)):=by
 rw[qi h,Dk (by omega)]
theorem K5{b raw R:List UInt8}{at':List UInt8}(hb:bC b=true)(hc:aN (b++at')=true)(hn:nameOf (b++at')=b)(hq:ta b raw)(he:(dE raw).2=0){a r:Nat}{s:PS}
  (hd:d.drop a=[60]++(b++at')++[62]++(raw++(dn b++R))):n7 dE dig d a r s=n7 dE dig d (a+((b++at').length+2)+raw.length+(b.length+3)) (r+1) (bi d s (a+((b++at').length+2)) (a+((b++at').length+2)+raw.length) (dig (r+1))) /\
   d.drop (a+((b++at').length+2)+raw.length+(b.length+3))=R/\a6 d (a+((b++at').length+2)) (a+((b++at').length+2)+raw.length)=raw:=by
 have h1:dF (d.drop a)=some ((b++at').length+2,b):=by rw[hd];exact Hz hb hc hn
 have hl:=ov hd (by simp)
 have hd1:d.drop (a+((b++at').length+2))=raw++(dn b++R):=by
  have:=pT hd
  rw[<-this];congr 1;simp;omega
 have hcut:=Cq hd1;have hj:Lib.index (d.drop (a+((b++at').length+2))) (dn b)=(raw.length:Int):=by rw[hd1];exact Hk hq R
 refine⟨Ml hl h1 (tj hb).1 hj (by rw[hcut];exact he),?_,hcut⟩;have:=pT (pT hd1)
 rw[<-this];congr 1;simp[dn]
theorem KX{a r q:Nat}{s:PS}{R:List UInt8}(hq:q<3)(hd:d.drop a=lg q++R):n7 dE dig d a r s=n7 dE dig d (a+(lg q).length) r s/\d.drop (a+(lg q).length)=R:=by
 refine⟨?_,pT hd⟩;rcases(show q=0\/q=1\/q=2 by omega)with rfl|rfl|rfl
 ·rfl
 ·exact pr (ov hd (by simp[lg])) (by rw[hd];exact rl (by simp[lg]))
 refine pr (ov hd (by simp[lg])) ?_;rw[hd]
 show dF (60 :: 104 :: 114 :: 47 :: 62 :: R)=some (5,[])
 rw[na rfl rfl];have:=ya (t:=[104,114,47]) (rest:=R) (k:=4) (u:=[104,114]) (by decide) (by decide)
 have e:([60]++[104,114,47]++[62]++R:List UInt8)=60 :: 104 :: 114 :: 47 :: 62 :: R:=rfl;rw[e]at this;rw[this];rfl
theorem nM{h r:Nat}{s:PS}{R:List UInt8}(hh:h<3)(hd:d=jp h++R):n7 dE dig d 0 r s=n7 dE dig d (jp h).length r s/\d.drop (jp h).length=R:=by
 have hd0:d.drop 0=jp h++R:=by rw[List.drop_zero];exact hd
 refine⟨?_,by rw[hd,List.drop_left]⟩;rcases(show h=0\/h=1\/h=2 by omega)with rfl|rfl|rfl
 ·rfl
 ·have ho:dF (d.drop 0)=some (6,[]):=by
   rw[hd0]
   show dF (60 :: 104 :: 116 :: 109 :: 108 :: 62 :: R)=some (6,[])
   rw[na rfl rfl];have:=ya (t:=[104,116,109,108]) (rest:=R) (k:=2) (u:=[104,116,109,108]) (by decide) (by decide)
   have e:([60]++[104,116,109,108]++[62]++R:List UInt8)=60 :: 104 :: 116 :: 109 :: 108 :: 62 :: R:=rfl;rw[e]at this;rw[this];rfl
  rw[pr (ov hd0 (by simp[jp])) ho];rfl
 have hi:Lib.index ([32,60,112,62,32,45,45,62,120]++R) [45,45,62]=((5:Nat):Int):=by
  refine Lib.index_first (by simp) (by rfl) λj hj=>?_
  rcases(show j=0\/j=1\/j=2\/j=3\/j=4 by omega)with rfl|rfl|rfl|rfl|rfl<;>rfl
 have ho:dF (d.drop 0)=some (12,[]):=by
  rw[hd0,r7 (by rfl)]
  show(if Lib.index ([32,60,112,62,32,45,45,62,120]++R) [45,45,62]<0 then none else some ((Lib.index ([32,60,112,62,32,45,45,62,120]++R) [45,45,62]).toNat+7,[]))=_
  rw[hi];rfl
 have hd1:d.drop 12=120 :: R:=by rw[hd];rfl
 rw[pr (ov hd0 (by simp[jp])) ho,show 0+12=12 from rfl,pr (ov hd1 (by simp)) (by rw[hd1];exact rl (by simp))];rfl
end
end Go.Proofs.YthoemdibbldndaaGreatDoor.St
