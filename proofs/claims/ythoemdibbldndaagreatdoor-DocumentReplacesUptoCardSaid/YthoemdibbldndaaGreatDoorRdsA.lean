/- The contract of markup's tag: what it gives is St.tagL. -/
import Derived.Test.YthoemdibbldndaaGreatDoorMkNm
import Derived.BigRegion
import Derived.Test.YthoemdibbldndaaGreatDoorFct
import Derived.Test.YthoemdibbldndaaGreatDoorGD
import Derived.Lib.IndexLaws
import Derived.Deep.RegionLaw
import Derived.Outline
import Derived.WalkSmall
import Derived.Test.YthoemdibbldndaaGreatDoorPart
set_option linter.all false
set_option maxHeartbeats 0
set_option maxRecDepth 20000
open Go.Value renaming int->VD,string->VE,slice->VF,bool->VG,pointer->VH,tuple->VI
open Go.IntKind renaming i64->VJ
open Go.Obj renaming cells->VK
open Go.Ending renaming returned->VL
open Go renaming World->VO
namespace Go.Proofs.YthoemdibbldndaaGreatDoor
open Go.RowKit
namespace St
theorem uB:∀l:List UInt8,Lib.indexByte l 62=if(l.takeWhile (λc=>decide (c.toNat≠62))).length<l.length then((l.takeWhile (λc=>decide (c.toNat≠62))).length:Int)else -1
 | []=>rfl
 | c :: l=>by
  unfold Lib.indexByte
  by_cases h:c.toNat=62
  ·have h2:c=62:=by apply UInt8.toNat_inj.1;simpa using h
   subst h2;simp
  have h2:¬c=62:=λe=>h (by rw[e];rfl)
  have h3:(c==62)=false:=by simpa using h2
  rw[h3,uB l,List.takeWhile_cons_of_pos (by simpa using h),List.length_cons];simp only[List.length_cons,Bool.false_eq_true,if_false]
  by_cases h4:(l.takeWhile (λc=>decide (c.toNat≠62))).length<l.length
  ·rw[if_pos h4,if_neg (by simp<;>omega),if_pos (by omega)];try simp
  rw[if_neg h4,if_pos (by simp),if_neg (by omega)]
theorem yP{l:List UInt8}(h:¬(cZ l).length+1<l.length):fP l=none:=by unfold fP;rw[if_neg h]
theorem yQ{l:List UInt8}(h:(cZ l).length+1<l.length):fP l=(fY (cZ l)).map λx=>(x.1,x.2,(cZ l).length+2):=by unfold fP;rw[if_pos h]
theorem Lg(l:List UInt8):([47]:List UInt8).isPrefixOf l=decide (l.head?=some 47):=by
 cases l with
 | nil=>rfl
 | cons c r=>
  simp[List.isPrefixOf];rw[Bool.eq_iff_iff,beq_iff_eq,decide_eq_true_iff];exact eq_comm
end St
def vg(R:St.El)(w:VO)(e:Ending)(w':VO):Prop:=ac w w'/\match R with
 | some (k,t,n)=>e=VL (VI #[.agg #[VD VJ k,VE ⟨t.toArray⟩,VD VJ 0],VD VJ n,VG true])
 | none=>∃(k:Int) (x:ByteArray) (m:Int),e=VL (VI #[.agg #[VD VJ k,VE x,VD VJ 0],VD VJ m,VG false])
theorem pz{R:St.El}{w w':VO}{k:Int}{t:List UInt8}{n:Nat}{x:ByteArray}{m:Int}(hR:R=some (k,t,n))(hx:x.1.1=t)(hm:m=n)(hu:ac w w'):vg R w (VL (VI #[.agg #[VD VJ k,VE x,VD VJ 0],VD VJ m,VG true])) w':=by
 subst hm hx hR;exact⟨hu,by simp only[aX]⟩
theorem mw{R:St.El}{w w':VO}{k:Int}{x:ByteArray}{m:Int}(hR:R=none)(hu:ac w w'):vg R w (VL (VI #[.agg #[VD VJ k,VE x,VD VJ 0],VD VJ m,VG false])) w':=by
 subst hR;exact⟨hu,_,_,_,rfl⟩
theorem Bt(s:ByteArray)(w:VO)(hs:s.size<=4611686018427387904)(h0:0<s.size)(nZ:s[0].toNat=60) :
  Calls Tryz.prog 166 #[VE s] w (vg (St.fP s.1.1) w):=by
 have hcr:s.1.1=s[0] :: s.1.1.drop 1:=St.ft s h0;have hlen:=St.aD s
 have eW:s.1.1.takeWhile (λc=>decide (c.toNat≠62))=s[0] :: St.cZ s.1.1:=by
  conv=>lhs;rw[hcr]
  rw[List.takeWhile_cons_of_pos (by simp[nZ])];rfl
 have bK:=λW=>Tryz.strings_IndexByte s 62 W
 have Ay:(62:Int).toNat.toUInt8=62:=rfl;rw[Ay,St.uB,eW,List.length_cons]at bK;have hpre:St.cZ s.1.1=(s.1.1.drop 1).take (St.cZ s.1.1).length:=List.prefix_iff_eq_take.1 (List.takeWhile_prefix _)
 by_cases hlt:(St.cZ s.1.1).length+1<s.1.1.length
 rotate_left 1
 ·have hR:=aa (St.yP hlt);rw[if_neg hlt]at bK;have dQ:=aa bK;clear bK hlt hpre eW hcr hlen Ay;go_enter Tryz.func166,Tryz.ntmps166;go_wp2_with fail;refine(dQ.out _).mono ?_;rintro e w' ⟨rfl,rfl⟩;go_wp2;refine bodyPost_ret (v:=VI #[.agg #[VD VJ 0,VE ⟨#[]⟩,VD VJ 0],VD VJ 0,VG false]) (by simp[results,Tryz.results166,go_sem]) rfl ?_;exact mw hR.out uZ
 have hT:=St.yQ hlt;rw[if_pos hlt]at bK;rw[hlen]at hlt;obtain⟨m,hm⟩:∃m,(St.cZ s.1.1).length=m:=⟨_,rfl⟩;obtain⟨x,hX⟩:∃x,s.extract 1 (m+1)=x:=⟨_,rfl⟩;have hxl:x.1.1=St.cZ s.1.1:=by rw[hpre,hm,<-hX,Lib.extract_data];simp
 rw[hm]at hT bK hlt;rw[<-hxl]at hT;have hxs:x.size=m:=by rw[<-St.aD,hxl,hm]
 have TN:x.size<=m:=by omega
 have GU:m<=x.size:=by omega
 have Vf:IntKind.i64.wrap ((m:Int)+1+1)=(m:Int)+1+1:=IntWalk.i64_in _ (by omega);clear hpre eW hcr hlen Ay hxl hm hxs;have z1:(1:Int)<=(m:Int)+1:=by omega
 have z2:(m:Int)+1<=(s.size:Int):=by omega
 have z3:¬(m:Int)+1<1:=by omega
 have oQ:(((m+1:Nat):Int))=(m:Int)+1:=by omega
 rw[oQ]at bK;have dQ:=aa bK;have hp:=λW=>iR x ⟨#[47]⟩ W (by omega) (by show 1<=_;omega)
 have hpe:preB ⟨#[47]⟩ x=decide (x.1.1.head?=some 47):=St.Lg _;rw[hpe]at hp;have yl:=λW=>Ek x W (by omega)
 unfold qc at yl;clear bK hpe oQ
 by_cases b1:x.1.1.head?=some 47
 ·have hx1:1<=x.size:=by
   rw[<-St.aD];cases hq:x.1.1 with
   | nil=>rw[hq]at b1;cases b1
   | cons c r=>simp
  obtain⟨y,hY⟩:∃y,x.extract 1 x.size=y:=⟨_,rfl⟩;have iF:y.1.1=x.1.1.drop 1:=by rw[<-hY,Lib.extract_data,List.take_of_length_le (by simp)]
  have hys:y.size<=x.size:=by rw[<-hY];simp
  have hI:St.fY x.1.1=if St.aS y.1.1 then some (3,y.1.1)else none:=by
   unfold St.fY;rw[if_pos b1,iF]
  rw[hI]at hT;have aZ:=λW=>jV y W (by omega)
  rw[decide_eq_true b1]at hp;have HP:=aa hp;have y1:(1:Int)<=(x.size:Int):=by omega
  have y2:1<=x.size:=hx1;clear hp yl hI b1 iF
  cases hb:St.aS y.1.1
  ·rw[hb]at hT aZ;have HT:=aa hT;have bk:=aa aZ;clear hT aZ hb;go_enter Tryz.func166,Tryz.ntmps166;go_wp2_with fail;refine(dQ.out _).mono ?_;rintro e w' ⟨rfl,rfl⟩;go_wp2_with fail;refine(HP.out _).mono ?_;rintro e w' ⟨rfl,rfl⟩;go_wp2_with fail;go_region;go_wp2_with fail;refine bt (λ_ _=>True) (λL W=>ac w W/\W.1[w.1.size+1]?=some (VK #[VD VJ 3,VE y,VD VJ 0] 36 (0,0))/\W.1[w.1.size]?=some (VK #[if L 6=true then VD VJ 3 else VD VJ 0,if L 6=true then VE y else VE ⟨#[]⟩,VD VJ 0] 36 (0,0))) ([λv _=>v=.agg #[VD VJ 3,VE y,VD VJ 0],λv _=>v=VD VJ ((m:Int)+1),λv _=>v=VD VJ ((m:Int)+1+1),λv _=>v=VH (some ⟨w.1.size+1,1,none⟩),λv _=>v=VE y,λv _=>v=VG false,λ_ _=>True,λv _=>v=VD VJ ((m:Int)+1+1),λv _=>v=VG false]) (λ_=>trivial) (λ_ _ _ _ _=>trivial) (by kernel_rfl) (by rfl) (by kernel_rfl) (by kernel_rfl) ?_ ?_ ?_ ?_ ?_;rotate_left 1
   ·intro ρ;simp only[bP,Act.put,ap,ak,aq,Nat.zero_add,Nat.reduceAdd];exact rfl
   ·exact⟨uZ,aO _ _ _ (by simp),(dG _ _ _ (by simp)).trans (aO _ _ _ rfl)⟩
   ·refine aj.cons (λρ L W hR hI hL hD hO hF K hK=>?_) ?_
    ·clear hF hD hO hR;simp only[Act.put,ap,ak,aq]at hK |-;have c0:W.cell? ⟨w.1.size+1,0,none⟩=_:=ai hI.2.1 0;have c1:W.cell? ⟨w.1.size+1,1,none⟩=_:=ai hI.2.1 1;have c2:W.cell? ⟨w.1.size+1,2,none⟩=_:=ai hI.2.1 2;go_simp;refine hK _ _ trivial (by simpa[ar]using hI) (λ_ _=>rfl)
    refine aj.cons (λρ L W hR hI hL hD hO hF K hK=>?_) ?_
    ·clear hF hD hO hR;simp only[Act.put,ap,ak,aq]at hK |-;go_simp;refine hK _ _ trivial (by simpa[ar]using hI) (λ_ _=>rfl)
    refine aj.cons (λρ L W hR hI hL hD hO hF K hK=>?_) ?_
    ·have f1:=ag hF (j:=1) (by decide);clear hF hD hO hR;simp only[Act.put,ap,ak,aq]at hK |-;have e1:ρ 1=VD VJ ((m:Int)+1):=f1;rw[e1]at hK |-;go_simp;refine hK _ _ trivial (by simpa[ar]using hI) (λ_ _=>rfl)
    refine aj.cons (λρ L W hR hI hL hD hO hF K hK=>?_) ?_
    ·clear hF hD hO hR;simp only[Act.put,ap,ak,aq]at hK |-;go_simp;refine hK _ _ trivial (by simpa[ar]using hI) (λ_ _=>rfl)
    refine aj.cons (λρ L W hR hI hL hD hO hF K hK=>?_) ?_
    ·have f3:=ag hF (j:=3) (by decide);clear hF hD hO hR;simp only[Act.put,ap,ak,aq]at hK |-;have e3:ρ 3=VH (some ⟨w.1.size+1,1,none⟩):=f3;rw[e3]at hK |-;have c1:W.cell? ⟨w.1.size+1,1,none⟩=_:=ai hI.2.1 1;go_simp;refine hK _ _ trivial (by simpa[ar]using hI) (λ_ _=>rfl)
    refine aj.cons (λρ L W hR hI hL hD hO hF K hK=>?_) ?_
    ·have f4:=ag hF (j:=4) (by decide);clear hF hD hO hR;simp only[Act.put,ap,ak,aq]at hK |-;have e4:ρ 4=VE y:=f4;rw[e4]at hK |-;go_simp;go_at_call 149;refine(bk.out _).mono ?_;rintro e W2 ⟨rfl,rfl⟩;exact hK _ _ trivial (by simpa[ar]using hI) (λ_ _=>rfl)
    refine aj.cons (λρ L W hR hI hL hD hO hF K hK=>?_) ?_
    ·have f0:=ag hF (j:=0) (by decide);clear hF hD hO hR;simp only[Act.put]at hK |-;have e0:ρ 0=.agg #[VD VJ 3,VE y,VD VJ 0]:=f0;rw[e0]at hK |-;have hlt:=ae hI.2.2;haveI:af w.1.size W:=af.of hlt;have hbb:W.1[w.1.size]?=some (VK #[if L 6=true then VD VJ 3 else VD VJ 0,if L 6=true then VE y else VE ⟨#[]⟩,VD VJ 0] 36 (0,0)):=hI.2.2;rw[hL]at hbb;have c0:W.cell? ⟨w.1.size,0,none⟩=_:=ai hbb 0;have c1:W.cell? ⟨w.1.size,1,none⟩=_:=ai hbb 1;have c2:W.cell? ⟨w.1.size,2,none⟩=_:=ai hbb 2;have p0:=bg hbb 0;have p1:=bg hbb 1;have p2:=bg hbb 2;go_simp;refine hK undef _ trivial ⟨((hI.1.setCell (p:=⟨w.1.size,0,none⟩) (Nat.le_refl _) _).setCell (p:=⟨w.1.size,1,none⟩) (Nat.le_refl _) _).setCell (p:=⟨w.1.size,2,none⟩) (Nat.le_refl _) _,?_,?_⟩ (λ_ _=>trivial)
     ·rw[heap_setCell_other _ _ _ _ (by simp),heap_setCell_other _ _ _ _ (by simp),heap_setCell_other _ _ _ _ (by simp)];exact hI.2.1
     simp only[ar,if_true];exact heap_setCell_same _ _ 2 _ _ _ (heap_setCell_same _ _ 1 _ _ _ (heap_setCell_same _ _ 0 _ _ _ hbb))
    refine aj.cons (λρ L W hR hI hL hD hO hF K hK=>?_) ?_
    ·have f2:=ag hF (j:=2) (by decide);clear hF hD hO hR;simp only[Act.put,ap,ak,aq]at hK |-;have e2:ρ 2=VD VJ ((m:Int)+1+1):=f2;rw[e2]at hK |-;go_simp;refine hK _ _ trivial (by simpa[ar]using hI) (λ_ _=>rfl)
    refine aj.cons (λρ L W hR hI hL hD hO hF K hK=>?_) ?_
    ·have f5:=ag hF (j:=5) (by decide);clear hF hD hO hR;simp only[Act.put,ap,ak,aq]at hK |-;have e5:ρ 5=VG false:=f5;rw[e5]at hK |-;go_simp;refine hK _ _ trivial (by simpa[ar]using hI) (λ_ _=>rfl)
    exact aj.nil
   intro ρ L W hR hI hL hF;obtain⟨_,_,_,_,_,_,_,g7,g8,_⟩:=hF;have g7:ρ 7=VD VJ ((m:Int)+1+1):=g7;have g8:ρ 8=VG false:=g8;rw[g7,g8];clear g7 g8 hR;have hbb:=hI.2.2;rw[hL 6 (by decide)]at hbb;simp only[if_true]at hbb;have c0:W.cell? ⟨w.1.size,0,none⟩=_:=ai hbb 0;have c1:W.cell? ⟨w.1.size,1,none⟩=_:=ai hbb 1;have c2:W.cell? ⟨w.1.size,2,none⟩=_:=ai hbb 2;have HU:=aa hI.1;clear hI hL hbb;go_wp2;refine bodyPost_ret (v:=VI #[.agg #[VD VJ 3,VE y,VD VJ 0],VD VJ ((m:Int)+1+1),VG false]) (by simp[results,Tryz.results166,go_sem,c0,c1,c2]) rfl ?_;exact mw HT.out HU.out
  rw[hb]at hT aZ;have HT:=aa hT;have bk:=aa aZ;clear hT aZ hb;go_enter Tryz.func166,Tryz.ntmps166;go_wp2_with fail;refine(dQ.out _).mono ?_;rintro e w' ⟨rfl,rfl⟩;go_wp2_with fail;refine(HP.out _).mono ?_;rintro e w' ⟨rfl,rfl⟩;go_wp2_with fail;go_region;go_wp2_with fail;refine bt (λ_ _=>True) (λL W=>ac w W/\W.1[w.1.size+1]?=some (VK #[VD VJ 3,VE y,VD VJ 0] 36 (0,0))/\W.1[w.1.size]?=some (VK #[if L 6=true then VD VJ 3 else VD VJ 0,if L 6=true then VE y else VE ⟨#[]⟩,VD VJ 0] 36 (0,0))) ([λv _=>v=.agg #[VD VJ 3,VE y,VD VJ 0],λv _=>v=VD VJ ((m:Int)+1),λv _=>v=VD VJ ((m:Int)+1+1),λv _=>v=VH (some ⟨w.1.size+1,1,none⟩),λv _=>v=VE y,λv _=>v=VG true,λ_ _=>True,λv _=>v=VD VJ ((m:Int)+1+1),λv _=>v=VG true]) (λ_=>trivial) (λ_ _ _ _ _=>trivial) (by kernel_rfl) (by rfl) (by kernel_rfl) (by kernel_rfl) ?_ ?_ ?_ ?_ ?_;rotate_left 1
  ·intro ρ;simp only[bP,Act.put,ap,ak,aq,Nat.zero_add,Nat.reduceAdd];exact rfl
  ·exact⟨uZ,aO _ _ _ (by simp),(dG _ _ _ (by simp)).trans (aO _ _ _ rfl)⟩
  ·refine aj.cons (λρ L W hR hI hL hD hO hF K hK=>?_) ?_
   ·clear hF hD hO hR;simp only[Act.put,ap,ak,aq]at hK |-;have c0:W.cell? ⟨w.1.size+1,0,none⟩=_:=ai hI.2.1 0;have c1:W.cell? ⟨w.1.size+1,1,none⟩=_:=ai hI.2.1 1;have c2:W.cell? ⟨w.1.size+1,2,none⟩=_:=ai hI.2.1 2;go_simp;refine hK _ _ trivial (by simpa[ar]using hI) (λ_ _=>rfl)
   refine aj.cons (λρ L W hR hI hL hD hO hF K hK=>?_) ?_
   ·clear hF hD hO hR;simp only[Act.put,ap,ak,aq]at hK |-;go_simp;refine hK _ _ trivial (by simpa[ar]using hI) (λ_ _=>rfl)
   refine aj.cons (λρ L W hR hI hL hD hO hF K hK=>?_) ?_
   ·have f1:=ag hF (j:=1) (by decide);clear hF hD hO hR;simp only[Act.put,ap,ak,aq]at hK |-;have e1:ρ 1=VD VJ ((m:Int)+1):=f1;rw[e1]at hK |-;go_simp;refine hK _ _ trivial (by simpa[ar]using hI) (λ_ _=>rfl)
   refine aj.cons (λρ L W hR hI hL hD hO hF K hK=>?_) ?_
   ·clear hF hD hO hR;simp only[Act.put,ap,ak,aq]at hK |-;go_simp;refine hK _ _ trivial (by simpa[ar]using hI) (λ_ _=>rfl)
   refine aj.cons (λρ L W hR hI hL hD hO hF K hK=>?_) ?_
   ·have f3:=ag hF (j:=3) (by decide);clear hF hD hO hR;simp only[Act.put,ap,ak,aq]at hK |-;have e3:ρ 3=VH (some ⟨w.1.size+1,1,none⟩):=f3;rw[e3]at hK |-;have c1:W.cell? ⟨w.1.size+1,1,none⟩=_:=ai hI.2.1 1;go_simp;refine hK _ _ trivial (by simpa[ar]using hI) (λ_ _=>rfl)
   refine aj.cons (λρ L W hR hI hL hD hO hF K hK=>?_) ?_
   ·have f4:=ag hF (j:=4) (by decide);clear hF hD hO hR;simp only[Act.put,ap,ak,aq]at hK |-;have e4:ρ 4=VE y:=f4;rw[e4]at hK |-;go_simp;go_at_call 149;refine(bk.out _).mono ?_;rintro e W2 ⟨rfl,rfl⟩;exact hK _ _ trivial (by simpa[ar]using hI) (λ_ _=>rfl)
   refine aj.cons (λρ L W hR hI hL hD hO hF K hK=>?_) ?_
   ·have f0:=ag hF (j:=0) (by decide);clear hF hD hO hR;simp only[Act.put]at hK |-;have e0:ρ 0=.agg #[VD VJ 3,VE y,VD VJ 0]:=f0;rw[e0]at hK |-;have hlt:=ae hI.2.2;haveI:af w.1.size W:=af.of hlt;have hbb:W.1[w.1.size]?=some (VK #[if L 6=true then VD VJ 3 else VD VJ 0,if L 6=true then VE y else VE ⟨#[]⟩,VD VJ 0] 36 (0,0)):=hI.2.2;rw[hL]at hbb;have c0:W.cell? ⟨w.1.size,0,none⟩=_:=ai hbb 0;have c1:W.cell? ⟨w.1.size,1,none⟩=_:=ai hbb 1;have c2:W.cell? ⟨w.1.size,2,none⟩=_:=ai hbb 2;have p0:=bg hbb 0;have p1:=bg hbb 1;have p2:=bg hbb 2;go_simp;refine hK undef _ trivial ⟨((hI.1.setCell (p:=⟨w.1.size,0,none⟩) (Nat.le_refl _) _).setCell (p:=⟨w.1.size,1,none⟩) (Nat.le_refl _) _).setCell (p:=⟨w.1.size,2,none⟩) (Nat.le_refl _) _,?_,?_⟩ (λ_ _=>trivial)
    ·rw[heap_setCell_other _ _ _ _ (by simp),heap_setCell_other _ _ _ _ (by simp),heap_setCell_other _ _ _ _ (by simp)];exact hI.2.1
    simp only[ar,if_true];exact heap_setCell_same _ _ 2 _ _ _ (heap_setCell_same _ _ 1 _ _ _ (heap_setCell_same _ _ 0 _ _ _ hbb))
   refine aj.cons (λρ L W hR hI hL hD hO hF K hK=>?_) ?_
   ·have f2:=ag hF (j:=2) (by decide);clear hF hD hO hR;simp only[Act.put,ap,ak,aq]at hK |-;have e2:ρ 2=VD VJ ((m:Int)+1+1):=f2;rw[e2]at hK |-;go_simp;refine hK _ _ trivial (by simpa[ar]using hI) (λ_ _=>rfl)
   refine aj.cons (λρ L W hR hI hL hD hO hF K hK=>?_) ?_
   ·have f5:=ag hF (j:=5) (by decide);clear hF hD hO hR;simp only[Act.put,ap,ak,aq]at hK |-;have e5:ρ 5=VG true:=f5;rw[e5]at hK |-;go_simp;refine hK _ _ trivial (by simpa[ar]using hI) (λ_ _=>rfl)
   exact aj.nil
  intro ρ L W hR hI hL hF;obtain⟨_,_,_,_,_,_,_,g7,g8,_⟩:=hF;have g7:ρ 7=VD VJ ((m:Int)+1+1):=g7;have g8:ρ 8=VG true:=g8;rw[g7,g8];clear g7 g8 hR;have hbb:=hI.2.2;rw[hL 6 (by decide)]at hbb;simp only[if_true]at hbb;have c0:W.cell? ⟨w.1.size,0,none⟩=_:=ai hbb 0;have c1:W.cell? ⟨w.1.size,1,none⟩=_:=ai hbb 1;have c2:W.cell? ⟨w.1.size,2,none⟩=_:=ai hbb 2;have HU:=aa hI.1;clear hI hL hbb;go_wp2;refine bodyPost_ret (v:=VI #[.agg #[VD VJ 3,VE y,VD VJ 0],VD VJ ((m:Int)+1+1),VG true]) (by simp[results,Tryz.results166,go_sem,c0,c1,c2]) rfl ?_;exact pz HT.out rfl (by omega) HU.out
 rw[decide_eq_false b1]at hp;have HP:=aa hp
 by_cases b2:x.1.1.getLast?=some 47
 ·have hx1:1<=x.size:=by
   rw[<-St.aD];cases hq:x.1.1 with
   | nil=>rw[hq]at b2;cases b2
   | cons c r=>simp
  obtain⟨y,hY⟩:∃y,x.extract 0 (x.size-1)=y:=⟨_,rfl⟩;have iF:y.1.1=x.1.1.dropLast:=by rw[<-hY,Lib.extract_data,List.dropLast_eq_take,St.aD];simp
  have hys:y.size<=x.size:=by rw[<-hY];simp
  have hI:St.fY x.1.1=if St.a7 y.1.1 then some (4,y.1.1)else none:=by
   unfold St.fY;rw[if_neg b1,if_pos b2,iF]
  rw[hI]at hT;have aZ:=λW=>om y W (by omega)
  rw[decide_eq_true b2]at yl;have FP:=aa yl;have y1:(x.size:Int)-1=((x.size-1:Nat):Int):=by omega
  have y2:(1:Int)<=(x.size:Int):=by omega
  have y3:(0:Int)<=(x.size:Int)-1:=by omega
  clear hp yl hI b1 b2 iF
  cases hb:St.a7 y.1.1
  ·rw[hb]at hT aZ;have HT:=aa hT;have bk:=aa aZ;clear hT aZ hb;go_enter Tryz.func166,Tryz.ntmps166;go_wp2_with fail;refine(dQ.out _).mono ?_;rintro e w' ⟨rfl,rfl⟩;go_wp2_with fail;refine(HP.out _).mono ?_;rintro e w' ⟨rfl,rfl⟩;go_wp2_with fail;refine(FP.out _).mono ?_;rintro e w' ⟨rfl,rfl⟩;go_wp2_with fail;go_region;go_wp2_with fail;refine bt (λ_ _=>True) (λL W=>ac w W/\W.1[w.1.size+1]?=some (VK #[VD VJ 4,VE y,VD VJ 0] 36 (0,0))/\W.1[w.1.size]?=some (VK #[if L 6=true then VD VJ 4 else VD VJ 0,if L 6=true then VE y else VE ⟨#[]⟩,VD VJ 0] 36 (0,0))) ([λv _=>v=.agg #[VD VJ 4,VE y,VD VJ 0],λv _=>v=VD VJ ((m:Int)+1),λv _=>v=VD VJ ((m:Int)+1+1),λv _=>v=VH (some ⟨w.1.size+1,1,none⟩),λv _=>v=VE y,λv _=>v=VG false,λ_ _=>True,λv _=>v=VD VJ ((m:Int)+1+1),λv _=>v=VG false]) (λ_=>trivial) (λ_ _ _ _ _=>trivial) (by kernel_rfl) (by rfl) (by kernel_rfl) (by kernel_rfl) ?_ ?_ ?_ ?_ ?_;rotate_left 1
   ·intro ρ;simp only[bP,Act.put,ap,ak,aq,Nat.zero_add,Nat.reduceAdd];exact rfl
   ·exact⟨uZ,aO _ _ _ (by simp),(dG _ _ _ (by simp)).trans (aO _ _ _ rfl)⟩
   ·refine aj.cons (λρ L W hR hI hL hD hO hF K hK=>?_) ?_
    ·clear hF hD hO hR;simp only[Act.put,ap,ak,aq]at hK |-;have c0:W.cell? ⟨w.1.size+1,0,none⟩=_:=ai hI.2.1 0;have c1:W.cell? ⟨w.1.size+1,1,none⟩=_:=ai hI.2.1 1;have c2:W.cell? ⟨w.1.size+1,2,none⟩=_:=ai hI.2.1 2;go_simp;refine hK _ _ trivial (by simpa[ar]using hI) (λ_ _=>rfl)
    refine aj.cons (λρ L W hR hI hL hD hO hF K hK=>?_) ?_
    ·clear hF hD hO hR;simp only[Act.put,ap,ak,aq]at hK |-;go_simp;refine hK _ _ trivial (by simpa[ar]using hI) (λ_ _=>rfl)
    refine aj.cons (λρ L W hR hI hL hD hO hF K hK=>?_) ?_
    ·have f1:=ag hF (j:=1) (by decide);clear hF hD hO hR;simp only[Act.put,ap,ak,aq]at hK |-;have e1:ρ 1=VD VJ ((m:Int)+1):=f1;rw[e1]at hK |-;go_simp;refine hK _ _ trivial (by simpa[ar]using hI) (λ_ _=>rfl)
    refine aj.cons (λρ L W hR hI hL hD hO hF K hK=>?_) ?_
    ·clear hF hD hO hR;simp only[Act.put,ap,ak,aq]at hK |-;go_simp;refine hK _ _ trivial (by simpa[ar]using hI) (λ_ _=>rfl)
    refine aj.cons (λρ L W hR hI hL hD hO hF K hK=>?_) ?_
    ·have f3:=ag hF (j:=3) (by decide);clear hF hD hO hR;simp only[Act.put,ap,ak,aq]at hK |-;have e3:ρ 3=VH (some ⟨w.1.size+1,1,none⟩):=f3;rw[e3]at hK |-;have c1:W.cell? ⟨w.1.size+1,1,none⟩=_:=ai hI.2.1 1;go_simp;refine hK _ _ trivial (by simpa[ar]using hI) (λ_ _=>rfl)
    refine aj.cons (λρ L W hR hI hL hD hO hF K hK=>?_) ?_
    ·have f4:=ag hF (j:=4) (by decide);clear hF hD hO hR;simp only[Act.put,ap,ak,aq]at hK |-;have e4:ρ 4=VE y:=f4;rw[e4]at hK |-;go_simp;go_at_call 150;refine(bk.out _).mono ?_;rintro e W2 ⟨rfl,hu⟩;refine hK _ _ trivial ⟨hI.1.trans hu,(hu.below.block _ (ae hI.2.1)).trans hI.2.1,?_⟩ (λ_ _=>rfl);simp only[ar,Nat.reduceEqDiff,if_false];exact(hu.below.block _ (ae hI.2.2)).trans hI.2.2
    refine aj.cons (λρ L W hR hI hL hD hO hF K hK=>?_) ?_
    ·have f0:=ag hF (j:=0) (by decide);clear hF hD hO hR;simp only[Act.put]at hK |-;have e0:ρ 0=.agg #[VD VJ 4,VE y,VD VJ 0]:=f0;rw[e0]at hK |-;have hlt:=ae hI.2.2;haveI:af w.1.size W:=af.of hlt;have hbb:W.1[w.1.size]?=some (VK #[if L 6=true then VD VJ 4 else VD VJ 0,if L 6=true then VE y else VE ⟨#[]⟩,VD VJ 0] 36 (0,0)):=hI.2.2;rw[hL]at hbb;have c0:W.cell? ⟨w.1.size,0,none⟩=_:=ai hbb 0;have c1:W.cell? ⟨w.1.size,1,none⟩=_:=ai hbb 1;have c2:W.cell? ⟨w.1.size,2,none⟩=_:=ai hbb 2;have p0:=bg hbb 0;have p1:=bg hbb 1;have p2:=bg hbb 2;go_simp;refine hK undef _ trivial ⟨((hI.1.setCell (p:=⟨w.1.size,0,none⟩) (Nat.le_refl _) _).setCell (p:=⟨w.1.size,1,none⟩) (Nat.le_refl _) _).setCell (p:=⟨w.1.size,2,none⟩) (Nat.le_refl _) _,?_,?_⟩ (λ_ _=>trivial)
     ·rw[heap_setCell_other _ _ _ _ (by simp),heap_setCell_other _ _ _ _ (by simp),heap_setCell_other _ _ _ _ (by simp)];exact hI.2.1
     simp only[ar,if_true];exact heap_setCell_same _ _ 2 _ _ _ (heap_setCell_same _ _ 1 _ _ _ (heap_setCell_same _ _ 0 _ _ _ hbb))
    refine aj.cons (λρ L W hR hI hL hD hO hF K hK=>?_) ?_
    ·have f2:=ag hF (j:=2) (by decide);clear hF hD hO hR;simp only[Act.put,ap,ak,aq]at hK |-;have e2:ρ 2=VD VJ ((m:Int)+1+1):=f2;rw[e2]at hK |-;go_simp;refine hK _ _ trivial (by simpa[ar]using hI) (λ_ _=>rfl)
    refine aj.cons (λρ L W hR hI hL hD hO hF K hK=>?_) ?_
    ·have f5:=ag hF (j:=5) (by decide);clear hF hD hO hR;simp only[Act.put,ap,ak,aq]at hK |-;have e5:ρ 5=VG false:=f5;rw[e5]at hK |-;go_simp;refine hK _ _ trivial (by simpa[ar]using hI) (λ_ _=>rfl)
    exact aj.nil
   intro ρ L W hR hI hL hF;obtain⟨_,_,_,_,_,_,_,g7,g8,_⟩:=hF;have g7:ρ 7=VD VJ ((m:Int)+1+1):=g7;have g8:ρ 8=VG false:=g8;rw[g7,g8];clear g7 g8 hR;have hbb:=hI.2.2;rw[hL 6 (by decide)]at hbb;simp only[if_true]at hbb;have c0:W.cell? ⟨w.1.size,0,none⟩=_:=ai hbb 0;have c1:W.cell? ⟨w.1.size,1,none⟩=_:=ai hbb 1;have c2:W.cell? ⟨w.1.size,2,none⟩=_:=ai hbb 2;have HU:=aa hI.1;clear hI hL hbb;go_wp2;refine bodyPost_ret (v:=VI #[.agg #[VD VJ 4,VE y,VD VJ 0],VD VJ ((m:Int)+1+1),VG false]) (by simp[results,Tryz.results166,go_sem,c0,c1,c2]) rfl ?_;exact mw HT.out HU.out
  rw[hb]at hT aZ;have HT:=aa hT;have bk:=aa aZ;clear hT aZ hb;go_enter Tryz.func166,Tryz.ntmps166;go_wp2_with fail;refine(dQ.out _).mono ?_;rintro e w' ⟨rfl,rfl⟩;go_wp2_with fail;refine(HP.out _).mono ?_;rintro e w' ⟨rfl,rfl⟩;go_wp2_with fail;refine(FP.out _).mono ?_;rintro e w' ⟨rfl,rfl⟩;go_wp2_with fail;go_region;go_wp2_with fail;refine bt (λ_ _=>True) (λL W=>ac w W/\W.1[w.1.size+1]?=some (VK #[VD VJ 4,VE y,VD VJ 0] 36 (0,0))/\W.1[w.1.size]?=some (VK #[if L 6=true then VD VJ 4 else VD VJ 0,if L 6=true then VE y else VE ⟨#[]⟩,VD VJ 0] 36 (0,0))) ([λv _=>v=.agg #[VD VJ 4,VE y,VD VJ 0],λv _=>v=VD VJ ((m:Int)+1),λv _=>v=VD VJ ((m:Int)+1+1),λv _=>v=VH (some ⟨w.1.size+1,1,none⟩),λv _=>v=VE y,λv _=>v=VG true,λ_ _=>True,λv _=>v=VD VJ ((m:Int)+1+1),λv _=>v=VG true]) (λ_=>trivial) (λ_ _ _ _ _=>trivial) (by kernel_rfl) (by rfl) (by kernel_rfl) (by kernel_rfl) ?_ ?_ ?_ ?_ ?_;rotate_left 1
  ·intro ρ;simp only[bP,Act.put,ap,ak,aq,Nat.zero_add,Nat.reduceAdd];exact rfl
  ·exact⟨uZ,aO _ _ _ (by simp),(dG _ _ _ (by simp)).trans (aO _ _ _ rfl)⟩
  ·refine aj.cons (λρ L W hR hI hL hD hO hF K hK=>?_) ?_
   ·clear hF hD hO hR;simp only[Act.put,ap,ak,aq]at hK |-;have c0:W.cell? ⟨w.1.size+1,0,none⟩=_:=ai hI.2.1 0;have c1:W.cell? ⟨w.1.size+1,1,none⟩=_:=ai hI.2.1 1;have c2:W.cell? ⟨w.1.size+1,2,none⟩=_:=ai hI.2.1 2;go_simp;refine hK _ _ trivial (by simpa[ar]using hI) (λ_ _=>rfl)
   refine aj.cons (λρ L W hR hI hL hD hO hF K hK=>?_) ?_
   ·clear hF hD hO hR;simp only[Act.put,ap,ak,aq]at hK |-;go_simp;refine hK _ _ trivial (by simpa[ar]using hI) (λ_ _=>rfl)
   refine aj.cons (λρ L W hR hI hL hD hO hF K hK=>?_) ?_
   ·have f1:=ag hF (j:=1) (by decide);clear hF hD hO hR;simp only[Act.put,ap,ak,aq]at hK |-;have e1:ρ 1=VD VJ ((m:Int)+1):=f1;rw[e1]at hK |-;go_simp;refine hK _ _ trivial (by simpa[ar]using hI) (λ_ _=>rfl)
   refine aj.cons (λρ L W hR hI hL hD hO hF K hK=>?_) ?_
   ·clear hF hD hO hR;simp only[Act.put,ap,ak,aq]at hK |-;go_simp;refine hK _ _ trivial (by simpa[ar]using hI) (λ_ _=>rfl)
   refine aj.cons (λρ L W hR hI hL hD hO hF K hK=>?_) ?_
   ·have f3:=ag hF (j:=3) (by decide);clear hF hD hO hR;simp only[Act.put,ap,ak,aq]at hK |-;have e3:ρ 3=VH (some ⟨w.1.size+1,1,none⟩):=f3;rw[e3]at hK |-;have c1:W.cell? ⟨w.1.size+1,1,none⟩=_:=ai hI.2.1 1;go_simp;refine hK _ _ trivial (by simpa[ar]using hI) (λ_ _=>rfl)
   refine aj.cons (λρ L W hR hI hL hD hO hF K hK=>?_) ?_
   ·have f4:=ag hF (j:=4) (by decide);clear hF hD hO hR;simp only[Act.put,ap,ak,aq]at hK |-;have e4:ρ 4=VE y:=f4;rw[e4]at hK |-;go_simp;go_at_call 150;refine(bk.out _).mono ?_;rintro e W2 ⟨rfl,hu⟩;refine hK _ _ trivial ⟨hI.1.trans hu,(hu.below.block _ (ae hI.2.1)).trans hI.2.1,?_⟩ (λ_ _=>rfl);simp only[ar,Nat.reduceEqDiff,if_false];exact(hu.below.block _ (ae hI.2.2)).trans hI.2.2
   refine aj.cons (λρ L W hR hI hL hD hO hF K hK=>?_) ?_
   ·have f0:=ag hF (j:=0) (by decide);clear hF hD hO hR;simp only[Act.put]at hK |-;have e0:ρ 0=.agg #[VD VJ 4,VE y,VD VJ 0]:=f0;rw[e0]at hK |-;have hlt:=ae hI.2.2;haveI:af w.1.size W:=af.of hlt;have hbb:W.1[w.1.size]?=some (VK #[if L 6=true then VD VJ 4 else VD VJ 0,if L 6=true then VE y else VE ⟨#[]⟩,VD VJ 0] 36 (0,0)):=hI.2.2;rw[hL]at hbb;have c0:W.cell? ⟨w.1.size,0,none⟩=_:=ai hbb 0;have c1:W.cell? ⟨w.1.size,1,none⟩=_:=ai hbb 1;have c2:W.cell? ⟨w.1.size,2,none⟩=_:=ai hbb 2;have p0:=bg hbb 0;have p1:=bg hbb 1;have p2:=bg hbb 2;go_simp;refine hK undef _ trivial ⟨((hI.1.setCell (p:=⟨w.1.size,0,none⟩) (Nat.le_refl _) _).setCell (p:=⟨w.1.size,1,none⟩) (Nat.le_refl _) _).setCell (p:=⟨w.1.size,2,none⟩) (Nat.le_refl _) _,?_,?_⟩ (λ_ _=>trivial)
    ·rw[heap_setCell_other _ _ _ _ (by simp),heap_setCell_other _ _ _ _ (by simp),heap_setCell_other _ _ _ _ (by simp)];exact hI.2.1
    simp only[ar,if_true];exact heap_setCell_same _ _ 2 _ _ _ (heap_setCell_same _ _ 1 _ _ _ (heap_setCell_same _ _ 0 _ _ _ hbb))
   refine aj.cons (λρ L W hR hI hL hD hO hF K hK=>?_) ?_
   ·have f2:=ag hF (j:=2) (by decide);clear hF hD hO hR;simp only[Act.put,ap,ak,aq]at hK |-;have e2:ρ 2=VD VJ ((m:Int)+1+1):=f2;rw[e2]at hK |-;go_simp;refine hK _ _ trivial (by simpa[ar]using hI) (λ_ _=>rfl)
   refine aj.cons (λρ L W hR hI hL hD hO hF K hK=>?_) ?_
   ·have f5:=ag hF (j:=5) (by decide);clear hF hD hO hR;simp only[Act.put,ap,ak,aq]at hK |-;have e5:ρ 5=VG true:=f5;rw[e5]at hK |-;go_simp;refine hK _ _ trivial (by simpa[ar]using hI) (λ_ _=>rfl)
   exact aj.nil
  intro ρ L W hR hI hL hF;obtain⟨_,_,_,_,_,_,_,g7,g8,_⟩:=hF;have g7:ρ 7=VD VJ ((m:Int)+1+1):=g7;have g8:ρ 8=VG true:=g8;rw[g7,g8];clear g7 g8 hR;have hbb:=hI.2.2;rw[hL 6 (by decide)]at hbb;simp only[if_true]at hbb;have c0:W.cell? ⟨w.1.size,0,none⟩=_:=ai hbb 0;have c1:W.cell? ⟨w.1.size,1,none⟩=_:=ai hbb 1;have c2:W.cell? ⟨w.1.size,2,none⟩=_:=ai hbb 2;have HU:=aa hI.1;clear hI hL hbb;go_wp2;refine bodyPost_ret (v:=VI #[.agg #[VD VJ 4,VE y,VD VJ 0],VD VJ ((m:Int)+1+1),VG true]) (by simp[results,Tryz.results166,go_sem,c0,c1,c2]) rfl ?_;exact pz HT.out rfl (by omega) HU.out
 have hI:St.fY x.1.1=if St.a7 x.1.1 then some (2,x.1.1)else none:=by
  unfold St.fY;rw[if_neg b1,if_neg b2]
 rw[hI]at hT;have aZ:=λW=>om x W (by omega)
 rw[decide_eq_false b2]at yl;have FP:=aa yl;clear hp yl hI b1 b2
 cases hb:St.a7 x.1.1
 ·rw[hb]at hT aZ;have HT:=aa hT;have bk:=aa aZ;clear hT aZ hb;go_enter Tryz.func166,Tryz.ntmps166;go_wp2_with fail;refine(dQ.out _).mono ?_;rintro e w' ⟨rfl,rfl⟩;go_wp2_with fail;refine(HP.out _).mono ?_;rintro e w' ⟨rfl,rfl⟩;go_wp2_with fail;refine(FP.out _).mono ?_;rintro e w' ⟨rfl,rfl⟩;go_wp2_with fail;refine bt (λ_ _=>True) (λL W=>ac w W/\W.1[w.1.size+1]?=some (VK #[VD VJ 2,VE x,VD VJ 0] 36 (0,0))/\W.1[w.1.size]?=some (VK #[if L 6=true then VD VJ 2 else VD VJ 0,if L 6=true then VE x else VE ⟨#[]⟩,VD VJ 0] 36 (0,0))) ([λv _=>v=.agg #[VD VJ 2,VE x,VD VJ 0],λv _=>v=VD VJ ((m:Int)+1),λv _=>v=VD VJ ((m:Int)+1+1),λv _=>v=VH (some ⟨w.1.size+1,1,none⟩),λv _=>v=VE x,λv _=>v=VG false,λ_ _=>True,λv _=>v=VD VJ ((m:Int)+1+1),λv _=>v=VG false]) (λ_=>trivial) (λ_ _ _ _ _=>trivial) (by kernel_rfl) (by rfl) (by kernel_rfl) (by kernel_rfl) ?_ ?_ ?_ ?_ ?_;rotate_left 1
  ·intro ρ;simp only[bP,Act.put,ap,ak,aq,Nat.zero_add,Nat.reduceAdd];exact rfl
  ·exact⟨uZ,aO _ _ _ (by simp),(dG _ _ _ (by simp)).trans (aO _ _ _ rfl)⟩
  ·refine aj.cons (λρ L W hR hI hL hD hO hF K hK=>?_) ?_
   ·clear hF hD hO hR;simp only[Act.put,ap,ak,aq]at hK |-;have c0:W.cell? ⟨w.1.size+1,0,none⟩=_:=ai hI.2.1 0;have c1:W.cell? ⟨w.1.size+1,1,none⟩=_:=ai hI.2.1 1;have c2:W.cell? ⟨w.1.size+1,2,none⟩=_:=ai hI.2.1 2;go_simp;refine hK _ _ trivial (by simpa[ar]using hI) (λ_ _=>rfl)
   refine aj.cons (λρ L W hR hI hL hD hO hF K hK=>?_) ?_
   ·clear hF hD hO hR;simp only[Act.put,ap,ak,aq]at hK |-;go_simp;refine hK _ _ trivial (by simpa[ar]using hI) (λ_ _=>rfl)
   refine aj.cons (λρ L W hR hI hL hD hO hF K hK=>?_) ?_
   ·have f1:=ag hF (j:=1) (by decide);clear hF hD hO hR;simp only[Act.put,ap,ak,aq]at hK |-;have e1:ρ 1=VD VJ ((m:Int)+1):=f1;rw[e1]at hK |-;go_simp;refine hK _ _ trivial (by simpa[ar]using hI) (λ_ _=>rfl)
   refine aj.cons (λρ L W hR hI hL hD hO hF K hK=>?_) ?_
   ·clear hF hD hO hR;simp only[Act.put,ap,ak,aq]at hK |-;go_simp;refine hK _ _ trivial (by simpa[ar]using hI) (λ_ _=>rfl)
   refine aj.cons (λρ L W hR hI hL hD hO hF K hK=>?_) ?_
   ·have f3:=ag hF (j:=3) (by decide);clear hF hD hO hR;simp only[Act.put,ap,ak,aq]at hK |-;have e3:ρ 3=VH (some ⟨w.1.size+1,1,none⟩):=f3;rw[e3]at hK |-;have c1:W.cell? ⟨w.1.size+1,1,none⟩=_:=ai hI.2.1 1;go_simp;refine hK _ _ trivial (by simpa[ar]using hI) (λ_ _=>rfl)
   refine aj.cons (λρ L W hR hI hL hD hO hF K hK=>?_) ?_
   ·have f4:=ag hF (j:=4) (by decide);clear hF hD hO hR;simp only[Act.put,ap,ak,aq]at hK |-;have e4:ρ 4=VE x:=f4;rw[e4]at hK |-;go_simp;go_at_call 150;refine(bk.out _).mono ?_;rintro e W2 ⟨rfl,hu⟩;refine hK _ _ trivial ⟨hI.1.trans hu,(hu.below.block _ (ae hI.2.1)).trans hI.2.1,?_⟩ (λ_ _=>rfl);simp only[ar,Nat.reduceEqDiff,if_false];exact(hu.below.block _ (ae hI.2.2)).trans hI.2.2
   refine aj.cons (λρ L W hR hI hL hD hO hF K hK=>?_) ?_
   ·have f0:=ag hF (j:=0) (by decide);clear hF hD hO hR;simp only[Act.put]at hK |-;have e0:ρ 0=.agg #[VD VJ 2,VE x,VD VJ 0]:=f0;rw[e0]at hK |-;have hlt:=ae hI.2.2;haveI:af w.1.size W:=af.of hlt;have hbb:W.1[w.1.size]?=some (VK #[if L 6=true then VD VJ 2 else VD VJ 0,if L 6=true then VE x else VE ⟨#[]⟩,VD VJ 0] 36 (0,0)):=hI.2.2;rw[hL]at hbb;have c0:W.cell? ⟨w.1.size,0,none⟩=_:=ai hbb 0;have c1:W.cell? ⟨w.1.size,1,none⟩=_:=ai hbb 1;have c2:W.cell? ⟨w.1.size,2,none⟩=_:=ai hbb 2;have p0:=bg hbb 0;have p1:=bg hbb 1;have p2:=bg hbb 2;go_simp;refine hK undef _ trivial ⟨((hI.1.setCell (p:=⟨w.1.size,0,none⟩) (Nat.le_refl _) _).setCell (p:=⟨w.1.size,1,none⟩) (Nat.le_refl _) _).setCell (p:=⟨w.1.size,2,none⟩) (Nat.le_refl _) _,?_,?_⟩ (λ_ _=>trivial)
    ·rw[heap_setCell_other _ _ _ _ (by simp),heap_setCell_other _ _ _ _ (by simp),heap_setCell_other _ _ _ _ (by simp)];exact hI.2.1
    simp only[ar,if_true];exact heap_setCell_same _ _ 2 _ _ _ (heap_setCell_same _ _ 1 _ _ _ (heap_setCell_same _ _ 0 _ _ _ hbb))
   refine aj.cons (λρ L W hR hI hL hD hO hF K hK=>?_) ?_
   ·have f2:=ag hF (j:=2) (by decide);clear hF hD hO hR;simp only[Act.put,ap,ak,aq]at hK |-;have e2:ρ 2=VD VJ ((m:Int)+1+1):=f2;rw[e2]at hK |-;go_simp;refine hK _ _ trivial (by simpa[ar]using hI) (λ_ _=>rfl)
   refine aj.cons (λρ L W hR hI hL hD hO hF K hK=>?_) ?_
   ·have f5:=ag hF (j:=5) (by decide);clear hF hD hO hR;simp only[Act.put,ap,ak,aq]at hK |-;have e5:ρ 5=VG false:=f5;rw[e5]at hK |-;go_simp;refine hK _ _ trivial (by simpa[ar]using hI) (λ_ _=>rfl)
   exact aj.nil
  intro ρ L W hR hI hL hF;obtain⟨_,_,_,_,_,_,_,g7,g8,_⟩:=hF;have g7:ρ 7=VD VJ ((m:Int)+1+1):=g7;have g8:ρ 8=VG false:=g8;rw[g7,g8];clear g7 g8 hR;have hbb:=hI.2.2;rw[hL 6 (by decide)]at hbb;simp only[if_true]at hbb;have c0:W.cell? ⟨w.1.size,0,none⟩=_:=ai hbb 0;have c1:W.cell? ⟨w.1.size,1,none⟩=_:=ai hbb 1;have c2:W.cell? ⟨w.1.size,2,none⟩=_:=ai hbb 2;have HU:=aa hI.1;clear hI hL hbb;go_wp2;refine bodyPost_ret (v:=VI #[.agg #[VD VJ 2,VE x,VD VJ 0],VD VJ ((m:Int)+1+1),VG false]) (by simp[results,Tryz.results166,go_sem,c0,c1,c2]) rfl ?_;exact mw HT.out HU.out
 rw[hb]at hT aZ;have HT:=aa hT;have bk:=aa aZ;clear hT aZ hb;go_enter Tryz.func166,Tryz.ntmps166;go_wp2_with fail;refine(dQ.out _).mono ?_;rintro e w' ⟨rfl,rfl⟩;go_wp2_with fail;refine(HP.out _).mono ?_;rintro e w' ⟨rfl,rfl⟩;go_wp2_with fail;refine(FP.out _).mono ?_;rintro e w' ⟨rfl,rfl⟩;go_wp2_with fail;refine bt (λ_ _=>True) (λL W=>ac w W/\W.1[w.1.size+1]?=some (VK #[VD VJ 2,VE x,VD VJ 0] 36 (0,0))/\W.1[w.1.size]?=some (VK #[if L 6=true then VD VJ 2 else VD VJ 0,if L 6=true then VE x else VE ⟨#[]⟩,VD VJ 0] 36 (0,0))) ([λv _=>v=.agg #[VD VJ 2,VE x,VD VJ 0],λv _=>v=VD VJ ((m:Int)+1),λv _=>v=VD VJ ((m:Int)+1+1),λv _=>v=VH (some ⟨w.1.size+1,1,none⟩),λv _=>v=VE x,λv _=>v=VG true,λ_ _=>True,λv _=>v=VD VJ ((m:Int)+1+1),λv _=>v=VG true]) (λ_=>trivial) (λ_ _ _ _ _=>trivial) (by kernel_rfl) (by rfl) (by kernel_rfl) (by kernel_rfl) ?_ ?_ ?_ ?_ ?_;rotate_left 1
 ·intro ρ;simp only[bP,Act.put,ap,ak,aq,Nat.zero_add,Nat.reduceAdd];exact rfl
 ·exact⟨uZ,aO _ _ _ (by simp),(dG _ _ _ (by simp)).trans (aO _ _ _ rfl)⟩
 ·refine aj.cons (λρ L W hR hI hL hD hO hF K hK=>?_) ?_
  ·clear hF hD hO hR;simp only[Act.put,ap,ak,aq]at hK |-;have c0:W.cell? ⟨w.1.size+1,0,none⟩=_:=ai hI.2.1 0;have c1:W.cell? ⟨w.1.size+1,1,none⟩=_:=ai hI.2.1 1;have c2:W.cell? ⟨w.1.size+1,2,none⟩=_:=ai hI.2.1 2;go_simp;refine hK _ _ trivial (by simpa[ar]using hI) (λ_ _=>rfl)
  refine aj.cons (λρ L W hR hI hL hD hO hF K hK=>?_) ?_
  ·clear hF hD hO hR;simp only[Act.put,ap,ak,aq]at hK |-;go_simp;refine hK _ _ trivial (by simpa[ar]using hI) (λ_ _=>rfl)
  refine aj.cons (λρ L W hR hI hL hD hO hF K hK=>?_) ?_
  ·have f1:=ag hF (j:=1) (by decide);clear hF hD hO hR;simp only[Act.put,ap,ak,aq]at hK |-;have e1:ρ 1=VD VJ ((m:Int)+1):=f1;rw[e1]at hK |-;go_simp;refine hK _ _ trivial (by simpa[ar]using hI) (λ_ _=>rfl)
  refine aj.cons (λρ L W hR hI hL hD hO hF K hK=>?_) ?_
  ·clear hF hD hO hR;simp only[Act.put,ap,ak,aq]at hK |-;go_simp;refine hK _ _ trivial (by simpa[ar]using hI) (λ_ _=>rfl)
  refine aj.cons (λρ L W hR hI hL hD hO hF K hK=>?_) ?_
  ·have f3:=ag hF (j:=3) (by decide);clear hF hD hO hR;simp only[Act.put,ap,ak,aq]at hK |-;have e3:ρ 3=VH (some ⟨w.1.size+1,1,none⟩):=f3;rw[e3]at hK |-;have c1:W.cell? ⟨w.1.size+1,1,none⟩=_:=ai hI.2.1 1;go_simp;refine hK _ _ trivial (by simpa[ar]using hI) (λ_ _=>rfl)
  refine aj.cons (λρ L W hR hI hL hD hO hF K hK=>?_) ?_
  ·have f4:=ag hF (j:=4) (by decide);clear hF hD hO hR;simp only[Act.put,ap,ak,aq]at hK |-;have e4:ρ 4=VE x:=f4;rw[e4]at hK |-;go_simp;go_at_call 150;refine(bk.out _).mono ?_;rintro e W2 ⟨rfl,hu⟩;refine hK _ _ trivial ⟨hI.1.trans hu,(hu.below.block _ (ae hI.2.1)).trans hI.2.1,?_⟩ (λ_ _=>rfl);simp only[ar,Nat.reduceEqDiff,if_false];exact(hu.below.block _ (ae hI.2.2)).trans hI.2.2
  refine aj.cons (λρ L W hR hI hL hD hO hF K hK=>?_) ?_
  ·have f0:=ag hF (j:=0) (by decide);clear hF hD hO hR;simp only[Act.put]at hK |-;have e0:ρ 0=.agg #[VD VJ 2,VE x,VD VJ 0]:=f0;rw[e0]at hK |-;have hlt:=ae hI.2.2;haveI:af w.1.size W:=af.of hlt;have hbb:W.1[w.1.size]?=some (VK #[if L 6=true then VD VJ 2 else VD VJ 0,if L 6=true then VE x else VE ⟨#[]⟩,VD VJ 0] 36 (0,0)):=hI.2.2;rw[hL]at hbb;have c0:W.cell? ⟨w.1.size,0,none⟩=_:=ai hbb 0;have c1:W.cell? ⟨w.1.size,1,none⟩=_:=ai hbb 1;have c2:W.cell? ⟨w.1.size,2,none⟩=_:=ai hbb 2;have p0:=bg hbb 0;have p1:=bg hbb 1;have p2:=bg hbb 2;go_simp;refine hK undef _ trivial ⟨((hI.1.setCell (p:=⟨w.1.size,0,none⟩) (Nat.le_refl _) _).setCell (p:=⟨w.1.size,1,none⟩) (Nat.le_refl _) _).setCell (p:=⟨w.1.size,2,none⟩) (Nat.le_refl _) _,?_,?_⟩ (λ_ _=>trivial)
   ·rw[heap_setCell_other _ _ _ _ (by simp),heap_setCell_other _ _ _ _ (by simp),heap_setCell_other _ _ _ _ (by simp)];exact hI.2.1
   simp only[ar,if_true];exact heap_setCell_same _ _ 2 _ _ _ (heap_setCell_same _ _ 1 _ _ _ (heap_setCell_same _ _ 0 _ _ _ hbb))
  refine aj.cons (λρ L W hR hI hL hD hO hF K hK=>?_) ?_
  ·have f2:=ag hF (j:=2) (by decide);clear hF hD hO hR;simp only[Act.put,ap,ak,aq]at hK |-;have e2:ρ 2=VD VJ ((m:Int)+1+1):=f2;rw[e2]at hK |-;go_simp;refine hK _ _ trivial (by simpa[ar]using hI) (λ_ _=>rfl)
  refine aj.cons (λρ L W hR hI hL hD hO hF K hK=>?_) ?_
  ·have f5:=ag hF (j:=5) (by decide);clear hF hD hO hR;simp only[Act.put,ap,ak,aq]at hK |-;have e5:ρ 5=VG true:=f5;rw[e5]at hK |-;go_simp;refine hK _ _ trivial (by simpa[ar]using hI) (λ_ _=>rfl)
  exact aj.nil
 intro ρ L W hR hI hL hF;obtain⟨_,_,_,_,_,_,_,g7,g8,_⟩:=hF;have g7:ρ 7=VD VJ ((m:Int)+1+1):=g7;have g8:ρ 8=VG true:=g8;rw[g7,g8];clear g7 g8 hR;have hbb:=hI.2.2;rw[hL 6 (by decide)]at hbb;simp only[if_true]at hbb;have c0:W.cell? ⟨w.1.size,0,none⟩=_:=ai hbb 0;have c1:W.cell? ⟨w.1.size,1,none⟩=_:=ai hbb 1;have c2:W.cell? ⟨w.1.size,2,none⟩=_:=ai hbb 2;have HU:=aa hI.1;clear hI hL hbb;go_wp2;refine bodyPost_ret (v:=VI #[.agg #[VD VJ 2,VE x,VD VJ 0],VD VJ ((m:Int)+1+1),VG true]) (by simp[results,Tryz.results166,go_sem,c0,c1,c2]) rfl ?_;exact pz HT.out rfl (by omega) HU.out
end Go.Proofs.YthoemdibbldndaaGreatDoor
namespace Go.Proofs.YthoemdibbldndaaGreatDoor.St
theorem uA:∀ {s sub:List UInt8} {i:Nat},Lib.index s sub=(i:Int)->Lib.occAt s sub i=true/\(∀j,j<i->Lib.occAt s sub j=false)/\i<=s.length
 | [],sub,i,h=>by
  unfold Lib.index at h
  split at h
  ·rename_i h0
   obtain rfl:i=0:=by omega
   refine⟨?_,λj hj=>absurd hj (Nat.not_lt_zero _),Nat.le_refl _⟩;cases sub with
   | nil=>rfl
   | cons a t=>cases h0
  omega
 | b :: l,sub,i,h=>by
  unfold Lib.index at h
  split at h
  ·rename_i h0
   obtain rfl:i=0:=by omega
   exact⟨by simpa[Lib.occAt]using h0,λj hj=>absurd hj (Nat.not_lt_zero _),Nat.zero_le _⟩
  rename_i h0
  split at h
  ·omega
  rename_i h1
  have hge:=Lib.index_ge l sub;have hne:Lib.index l sub≠-1:=by simpa using h1
  obtain⟨k,rfl⟩:∃k,i=k+1:=⟨i-1,by omega⟩;obtain⟨g1,g2,g3⟩:=uA (s:=l) (sub:=sub) (i:=k) (by omega);refine⟨by simpa[Lib.occAt]using g1,λj hj=>?_,by simpa using g3⟩;cases j with
  | zero=>exact Bool.eq_false_iff.2 (by simpa[Lib.occAt]using h0)
  | succ j=>simpa[Lib.occAt]using g2 j (by omega)
theorem index_room{s sub:List UInt8}{i:Nat}(h:Lib.index s sub=(i:Int))(h0:sub≠[]):i+sub.length<=s.length:=by
 have h1:=(uA h).1;unfold Lib.occAt at h1;have h2:=(List.isPrefixOf_iff_prefix.1 h1).length_le;rw[List.length_drop]at h2;have h3:0<sub.length:=List.length_pos_iff.2 h0;omega
def fo(l:List UInt8):Option (Nat × List UInt8):=
 if l.head?≠some 60 then some (1,[])else
 if([60,33,45,45]:List UInt8).isPrefixOf l then(if Lib.index (l.drop 4) [45,45,62]<0 then none else some ((Lib.index (l.drop 4) [45,45,62]).toNat+7,[]))else
 match fP l with
 | none=>none
 | some (k,t,n)=>if df (nameOf t)then(if k=2 then some (n,nameOf t)else none)else some (n,[])
def fx(b:List UInt8):List UInt8:=[60,47]++b++[62]
def eX(dE:List UInt8->Nat × Int)(dig:Nat->List UInt8)(d:List UInt8):Nat->Nat->Nat->PS->Except (Nat × Int) PS
 | 0,_,_,s=>.ok s
 | fuel+1,a,r,s=>
  if d.length<=a then .ok s else
  match fo (d.drop a)with
  | none=>.error (a,2)
  | some (n,b)=>
   if b=[]then eX dE dig d fuel (a+n) r s else
   let j:=Lib.index (d.drop (a+n)) (fx b)
   if j<0 then(if(dE (d.drop (a+n))).2≠0 then .error (a+n+(dE (d.drop (a+n))).1,(dE (d.drop (a+n))).2)else .error (d.length,2))else
   if(dE (be d (a+n) (a+n+j.toNat))).2≠0 then .error (a+n+(dE (be d (a+n) (a+n+j.toNat))).1,(dE (be d (a+n) (a+n+j.toNat))).2)else
   eX dE dig d fuel (a+n+j.toNat+(b.length+3)) (r+1) (bQ d s (a+n) (a+n+j.toNat) (dig (r+1)))
def iY(dE:List UInt8->Nat × Int)(dig:Nat->List UInt8)(d:List UInt8):List Pt × Nat × Int:=
 if 65536<d.length then([],0,3)else
 match eX dE dig d (d.length+1) 0 0 ([],0)with
 | .error (a,e)=>([],a,e)
 | .ok s=>(dt d s,0,0)
def jU(d:List UInt8):Except (Nat × Int) PS->List Pt × Nat × Int
 | .error (a,e)=>([],a,e)
 | .ok s=>(dt d s,0,0)
theorem sP{dE:List UInt8->Nat × Int}{dig:Nat->List UInt8}{d:List UInt8}(h:¬65536<d.length):iY dE dig d=jU d (eX dE dig d (d.length+1) 0 0 ([],0)):=by
 rw[iY,if_neg h];cases eX dE dig d (d.length+1) 0 0 ([],0)<;>rfl
section
variable {dE:List UInt8->Nat × Int} {dig:Nat->List UInt8} {d:List UInt8} {fuel a r n:Nat} {b:List UInt8} {s:PS}
theorem tm(h:d.length<=a):eX dE dig d fuel a r s=.ok s:=by
 cases fuel with
 | zero=>rfl
 | succ f=>rw[eX,if_pos h]
theorem tj(h:¬d.length<=a)(h1:fo (d.drop a)=none):eX dE dig d (fuel+1) a r s=.error (a,2):=by rw[eX,if_neg h,h1]
theorem l9(h:¬d.length<=a)(h1:fo (d.drop a)=some (n,[])):eX dE dig d (fuel+1) a r s=eX dE dig d fuel (a+n) r s:=by rw[eX,if_neg h,h1];simp only[if_true]
theorem qJ(h:¬d.length<=a)(h1:fo (d.drop a)=some (n,b))(hb:b≠[])(hj:Lib.index (d.drop (a+n)) (fx b)<0)(he:(dE (d.drop (a+n))).2=0):eX dE dig d (fuel+1) a r s=.error (d.length,2):=by
 rw[eX,if_neg h,h1];simp only;rw[if_neg hb,if_pos hj,if_neg (by rw[he];decide)]
theorem oZ(h:¬d.length<=a)(h1:fo (d.drop a)=some (n,b))(hb:b≠[])(hj:Lib.index (d.drop (a+n)) (fx b)<0)(he:(dE (d.drop (a+n))).2≠0):eX dE dig d (fuel+1) a r s=.error (a+n+(dE (d.drop (a+n))).1,(dE (d.drop (a+n))).2):=by
 rw[eX,if_neg h,h1];simp only;rw[if_neg hb,if_pos hj,if_pos he]
theorem tn{j:Nat}(h:¬d.length<=a)(h1:fo (d.drop a)=some (n,b))(hb:b≠[])(hj:Lib.index (d.drop (a+n)) (fx b)=(j:Int))(he:(dE (be d (a+n) (a+n+j))).2≠0):eX dE dig d (fuel+1) a r s=.error (a+n+(dE (be d (a+n) (a+n+j))).1,(dE (be d (a+n) (a+n+j))).2):=by
 rw[eX,if_neg h,h1];simp only;rw[if_neg hb,hj,if_neg (by omega),Int.toNat_natCast,if_pos he]
theorem qK{j:Nat}(h:¬d.length<=a)(h1:fo (d.drop a)=some (n,b))(hb:b≠[])(hj:Lib.index (d.drop (a+n)) (fx b)=(j:Int))(he:(dE (be d (a+n) (a+n+j))).2=0) :
  eX dE dig d (fuel+1) a r s=eX dE dig d fuel (a+n+j+(b.length+3)) (r+1) (bQ d s (a+n) (a+n+j) (dig (r+1))):=by
 rw[eX,if_neg h,h1];simp only;rw[if_neg hb,hj,if_neg (by omega),Int.toNat_natCast,if_neg (by rw[he];decide)]
end
theorem DZ{l:List UInt8}(h:([60,33,45,45]:List UInt8).isPrefixOf l=true):fP l=none:=by
 obtain⟨r,rfl⟩:=List.isPrefixOf_iff_prefix.1 h
 have e:cZ ([60,33,45,45]++r)=33 :: 45 :: 45 :: r.takeWhile (λc=>decide (c.toNat≠62)):=by
  unfold cZ
  show((33:UInt8) :: 45 :: 45 :: r).takeWhile _=_
  rw[List.takeWhile_cons_of_pos (by decide),List.takeWhile_cons_of_pos (by decide),List.takeWhile_cons_of_pos (by decide)]
 have hnc:∀t:List UInt8,t.head?=some 33->a7 t=false:=by
  intro t ht;rw[Bool.eq_false_iff];intro hc;have hn:=(D0 hc).2.2.2;cases t with
  | nil=>cases ht
  | cons c r=>
   simp at ht;subst ht;have:nameOf (33 :: r)=33 :: nameOf r:=by unfold nameOf;rw[List.takeWhile_cons_of_pos (by decide)]
   rw[this,aS]at hn;simp[lZ]at hn
 unfold fP;rw[e]
 split
 ·unfold fY;have h2:a7 (List.dropLast (33 :: 45 :: 45 :: r.takeWhile (λc=>decide (c.toNat≠62))))=false:=hnc _ (by simp);have h1:a7 (33 :: 45 :: 45 :: r.takeWhile (λc=>decide (c.toNat≠62)))=false:=hnc _ rfl;rw[if_neg (by simp),h2,h1]
  split<;>simp
 rfl
theorem xc{l:List UInt8}(h:l.head?≠some 60):fo l=some (1,[]):=by unfold fo;rw[if_pos h]
theorem uK{l:List UInt8}(h:l.head?=some 60)(h2:([60,33,45,45]:List UInt8).isPrefixOf l=false):fo l=match fP l with
 | none=>none
 | some (k,t,n)=>if df (nameOf t)then(if k=2 then some (n,nameOf t)else none)else some (n,[]):=by
 unfold fo;rw[if_neg (by simp[h]),h2];rfl
theorem uJ{l:List UInt8}(h2:([60,33,45,45]:List UInt8).isPrefixOf l=true):fo l=if Lib.index (l.drop 4) [45,45,62]<0 then none else some ((Lib.index (l.drop 4) [45,45,62]).toNat+7,[]):=by
 have h:l.head?=some 60:=by
  obtain⟨r,rfl⟩:=List.isPrefixOf_iff_prefix.1 h2;rfl
 unfold fo;rw[if_neg (by simp[h]),if_pos h2]
theorem xF{t:List UInt8}(h:df t=true):t≠[]/\t.length<=5:=by
 unfold df at h;rw[decide_eq_true_eq]at h;rcases h with rfl|rfl|rfl|rfl|rfl<;>simp
theorem By{l:List UInt8}{n:Nat}{b:List UInt8}(h:fo l=some (n,b))(h0:l≠[]):1<=n/\n<=l.length/\b.length<=5/\(b≠[]->df b=true):=by
 by_cases nZ:l.head?=some 60
 ·cases hc:([60,33,45,45]:List UInt8).isPrefixOf l
  ·rw[uK nZ hc]at h;cases hq:fP l with
   | none=>rw[hq]at h;cases h
   | some x=>
    obtain⟨k,t,m⟩:=x;have hl:=j3 hq;rw[hq]at h;simp only at h
    split at h
    ·rename_i hb
     split at h
     ·simp only[Option.some.injEq,Prod.mk.injEq]at h;obtain⟨rfl,rfl⟩:=h;exact⟨by omega,hl.2.2.1,(xF hb).2,λ_=>hb⟩
     cases h
    simp only[Option.some.injEq,Prod.mk.injEq]at h;obtain⟨rfl,rfl⟩:=h;exact⟨by omega,hl.2.2.1,by simp,λe=>absurd rfl e⟩
  rw[uJ hc]at h
  split at h
  ·cases h
  rename_i hi
  simp only[Option.some.injEq,Prod.mk.injEq]at h;obtain⟨rfl,rfl⟩:=h;have hp:=(List.isPrefixOf_iff_prefix.1 hc).length_le
  have hb:(Lib.index (l.drop 4) [45,45,62]).toNat+3<=(l.drop 4).length:=by
   obtain⟨i,hi2⟩:∃i:Nat,Lib.index (l.drop 4) [45,45,62]=(i:Int):=⟨_,(Int.toNat_of_nonneg (by omega)).symm⟩;rw[hi2];exact index_room hi2 (by simp)
  rw[List.length_drop]at hb;simp at hp;exact⟨by omega,by omega,by simp,λe=>absurd rfl e⟩
 rw[xc nZ]at h;simp only[Option.some.injEq,Prod.mk.injEq]at h;obtain⟨rfl,rfl⟩:=h;exact⟨by omega,List.length_pos_iff.2 h0,by simp,λe=>absurd rfl e⟩
end Go.Proofs.YthoemdibbldndaaGreatDoor.St
namespace Go.Proofs.YthoemdibbldndaaGreatDoor.Mk
open Go.RowKit
section
def zU(R:Option (Nat × List UInt8))(w:VO)(e:Ending)(w':VO):Prop:=ac w w'/\match R with
 | some (n,b)=>e=VL (VI #[VD VJ n,VE ⟨b.toArray⟩,VG true])
 | none=>∃(m:Int) (x:ByteArray),e=VL (VI #[VD VJ m,VE x,VG false])
theorem mq{R:Option (Nat × List UInt8)}{w w':VO}{n:Nat}{b:List UInt8}{x:ByteArray}{m:Int}(hR:R=some (n,b))(hx:x.1.1=b)(hm:m=n)(hu:ac w w'):zU R w (VL (VI #[VD VJ m,VE x,VG true])) w':=by
 subst hm hx hR;exact⟨hu,by simp only[aX]⟩
theorem pu{R:Option (Nat × List UInt8)}{w w':VO}{x:ByteArray}{m:Int}(hR:R=none)(hu:ac w w'):zU R w (VL (VI #[VD VJ m,VE x,VG false])) w':=by
 subst hR;exact⟨hu,_,_,rfl⟩
theorem Cu(s:ByteArray)(m:Int)(w:VO)(hm:w.cell? ⟨0,0,none⟩=some (VD VJ m))(hs:s.size<=65536)(h0:0<s.size) :
  Calls Tryz.prog 122 #[VE s] w (zU (St.fo s.1.1) w):=by
 have hcr:s.1.1=s[0] :: s.1.1.drop 1:=St.ft s h0;have hlen:=St.aD s
 by_cases gT:s[0].toNat=60
 rotate_left 1
 ·have f60:((s[0].toNat:Int) != 60)=true:=by simp;omega
  have HR:=aa (St.xc (l:=s.1.1) (by rw[hcr];simp;intro e;exact gT (by rw[e];rfl)));clear hcr hlen hm;go_enter Tryz.func122,Tryz.ntmps122;go_wp2;go_ret3;exact mq HR.out rfl rfl (uZ)
 have f60:((s[0].toNat:Int) != 60)=false:=by simp;omega
 have lP:s.1.1.head?=some 60:=by rw[hcr];simp;exact UInt8.toNat_inj.1 gT
 have hpre:=λW=>iR s ⟨#[60,33,45,45]⟩ W (by omega) (by show 4<=_;omega)
 cases hp:preB ⟨#[60,33,45,45]⟩ s with
 | true=>
  rw[hp]at hpre;have hp':([60,33,45,45]:List UInt8).isPrefixOf s.1.1=true:=hp;have h4:4<=s.size:=by have:=(List.isPrefixOf_iff_prefix.1 hp').length_le;simpa using this
  have z4:(4:Int)<=(s.size:Int):=by omega
  obtain⟨x,hx⟩:∃x,s.extract 4 s.size=x:=⟨_,rfl⟩;have hxl:x.1.1=s.1.1.drop 4:=by rw[<-hx,Lib.extract_data,List.take_of_length_le (by simp)]
  have hxs:x.size=s.size-4:=by rw[<-hx];simp
  have hR:=St.uJ hp';rw[<-hxl]at hR;have bK:=λW (hW:W.cell? ⟨0,0,none⟩=some (VD VJ m))=>Tryz.strings_Index x ⟨#[45,45,62]⟩ m W (by omega) hW
  have hge:=Lib.index_ge x.1.1 [45,45,62]
  have hle:Lib.index x.1.1 [45,45,62]<=65536:=by
   by_cases hn:Lib.index x.1.1 [45,45,62]<0
   ·omega
   obtain⟨i,hi⟩:∃i:Nat,Lib.index x.1.1 [45,45,62]=(i:Int):=⟨_,(Int.toNat_of_nonneg (by omega)).symm⟩;have:=(St.uA hi).2.2
   rw[St.aD]at this;omega
  have hq:Lib.index x.1.1 (⟨#[45,45,62]⟩:ByteArray).1.1=Lib.index x.1.1 [45,45,62]:=rfl;simp only[hq]at bK;clear hq;generalize Lib.index x.1.1 [45,45,62]=z at hR bK hge hle;have rL:=aa hpre;have dQ:=aa bK;have HM:=aa hm;clear hpre bK hm hp hp' hcr lP hxl hlen
  by_cases hz:z<0
  ·have z1:¬(0:Int)<=z:=by omega
   rw[if_pos hz]at hR;have HR:=aa hR;clear hR;go_enter Tryz.func122,Tryz.ntmps122;go_wp2_with fail;refine(rL.out _).mono ?_;rintro e w2 ⟨rfl,rfl⟩;go_wp2_with fail;refine(dQ.out _ ?_).mono ?_
   ·first|exact HM.out|(simp;exact HM.out)
   rintro e w2 ⟨rfl,rfl⟩;go_wp2;go_ret3;simp only[show(decide ((0:Int)<=z))=false from decide_eq_false (by omega)];refine pu HR.out ?_;exact uZ
  have z1:(0:Int)<=z:=by omega
  rw[if_neg hz]at hR;have HR:=aa hR;clear hR;go_enter Tryz.func122,Tryz.ntmps122;go_wp2_with fail;refine(rL.out _).mono ?_;rintro e w2 ⟨rfl,rfl⟩;go_wp2_with fail;refine(dQ.out _ ?_).mono ?_
  ·first|exact HM.out|(simp;exact HM.out)
  rintro e w2 ⟨rfl,rfl⟩;go_wp2;go_ret3;simp only[show(decide ((0:Int)<=z))=true from decide_eq_true z1];refine mq HR.out rfl (by omega) ?_;exact uZ
 | false=>
  rw[hp]at hpre;have hp':([60,33,45,45]:List UInt8).isPrefixOf s.1.1=false:=hp;have hR:=St.uK lP hp';have cw:=λW=>Bt s W (by omega) h0 gT
  have rL:=aa hpre;cases hq:St.fP s.1.1 with
  | none=>
   rw[hq]at hR cw;have HR:=aa hR;have dR:=aa cw;clear hR cw hq hpre hp hp' hcr lP hlen hm;go_enter Tryz.func122,Tryz.ntmps122;go_wp2_with fail;refine(rL.out _).mono ?_;rintro e w2 ⟨rfl,rfl⟩;go_wp2_with fail;refine(dR.out _).mono ?_;rintro e w3 ⟨hu,k,x,q,rfl⟩;have HU:=aa hu;clear hu;go_wp2;go_ret3;exact pu HR.out (HU.out.trans (uZ))
  | some q=>
   obtain⟨k,t,n⟩:=q
   have htl:t.length<=4611686018427387904:=by
    have:=St.j3 hq
    rw[St.aD]at this;omega
   rw[hq]at hR cw;simp only at hR;obtain⟨tb,fl⟩:∃tb:ByteArray,(⟨t.toArray⟩:ByteArray)=tb:=⟨_,rfl⟩;obtain⟨nb,hnb⟩:∃nb:ByteArray,(⟨(St.nameOf t).toArray⟩:ByteArray)=nb:=⟨_,rfl⟩;have aZ:=λW=>o0 t W htl
   have ob:nb.1.1=St.nameOf t:=by rw[<-hnb]
   have hbk:=λW=>lu nb W
   rw[ob]at hbk;have mO:∀W,Calls Tryz.prog 166 #[VE s] W λe w'=>ac W w'/\e=VL (VI #[.agg #[VD VJ k,VE ⟨t.toArray⟩,VD VJ 0],VD VJ n,VG true]):=cw
   rw[fl]at mO;rw[fl,hnb]at aZ;have bk:=aa aZ;have dR:=aa mO;cases hb:St.df (St.nameOf t)with
   | false=>
    rw[hb]at hR hbk;have jg:=aa hbk;have HR:=aa (show St.fo s.1.1=some (n,[])from hR);clear hR cw mO hq hpre hp hp' hcr lP hlen hm aZ hbk hb fl hnb ob;go_enter Tryz.func122,Tryz.ntmps122;go_wp2_with fail;refine(rL.out _).mono ?_;rintro e w2 ⟨rfl,rfl⟩;go_wp2_with fail;refine(dR.out _).mono ?_;rintro e w3 ⟨hu,rfl⟩;have HU:=aa hu;clear hu;go_wp2_with fail;refine(bk.out _).mono ?_;rintro e w4 ⟨rfl,hu⟩;have aW:=aa ((HU.out.alloc _).trans hu);clear hu;go_wp2_with fail;refine(jg.out _).mono ?_;rintro e w5 ⟨rfl,rfl⟩;go_wp2;go_ret3;exact mq HR.out rfl rfl (aW.out.trans (uZ))
   | true=>
    rw[hb]at hR hbk;have jg:=aa hbk;have HR:=aa (show St.fo s.1.1=if k=2 then some (n,St.nameOf t)else none from hR);have CL:=aa ob;clear hR cw mO hq hpre hp hp' hcr lP hlen hm aZ hbk hb fl hnb ob;go_enter Tryz.func122,Tryz.ntmps122;go_wp2_with fail;refine(rL.out _).mono ?_;rintro e w2 ⟨rfl,rfl⟩;go_wp2_with fail;refine(dR.out _).mono ?_;rintro e w3 ⟨hu,rfl⟩;have HU:=aa hu;clear hu;go_wp2_with fail;refine(bk.out _).mono ?_;rintro e w4 ⟨rfl,hu⟩;have cV:=(hu.below.block w3.1.size (by simp)).trans (aO w3 (VK #[VD VJ k,VE tb,VD VJ 0] 36) w3.1.size rfl);have x0:w4.cell? ⟨w3.1.size,0,none⟩=some (VD VJ k):=ai cV 0;have x1:w4.cell? ⟨w3.1.size,1,none⟩=some (VE tb):=ai cV 1;haveI:af w3.1.size w4:=af.of (ae cV);have aW:=aa ((HU.out.alloc _).trans hu);clear hu cV;go_wp2_with fail;refine(jg.out _).mono ?_;rintro e w5 ⟨rfl,rfl⟩;go_wp2_with fail
    first|refine aB (by kernel_rfl) (by kernel_rfl) ?_|refine aI (by kernel_rfl) (by kernel_rfl) ?_
    repeat (go_big_quiet_step (first|(go_at_call 129;exact Calls.cK (bk.out _))))
    refine wpQuiet_nil ?_;rintro _ ⟨X,rfl⟩;have ba:=aa (aW.out.trans (show ac w4 _ from uZ))
    by_cases hk:k=2
    ·subst hk;have jx:=aa (HR.out.trans (if_pos rfl));clear HR;go_wp2;go_ret3;exact mq jx.out CL.out rfl (ba.out.trans (uZ))
    have hkb:(k==2)=false:=by simpa using hk
    have jx:=aa (HR.out.trans (if_neg hk));clear HR;go_wp2;go_ret3;simp only[hkb];exact pu jx.out (ba.out.trans (uZ))
end
section
section
variable {w W w4:VO} {B b:Nat} {v0 v1 v2 v v':Value} {its op eG:List St.It} {tx:List UInt8} {cuts:List Nat} {c c':Nat}
theorem BV.SA(h:BV ⟨v,op,c⟩ w B b v0 v1 v2 its tx cuts)(ho:w.ownsRow B 36 3 v' eG.length (av eG))(hd:v'.ownBlock=v.ownBlock):BV ⟨v',eG,c⟩ (w.setCell ⟨b,3,none⟩ v') B b v0 v1 v2 its tx cuts:=by
 obtain⟨h0,h1,h2,h3,h4,h5,h6⟩:=h;exact⟨h0,heap_setCell_same w b 3 _ _ v' h1,aF h2 (aQ h2 h1 (by decide)),aF h3 (aQ h3 h1 (by decide)),aF h4 (aQ h4 h1 (by decide)),aF ho (aQ ho h1 (by decide)),by unfold xo at h6 |-;rw[hd];exact h6⟩
theorem BV.ON(h:BV ⟨v,op,c⟩ w B b v0 v1 v2 its tx cuts)(m:Int)(hm:m=(c':Int)):BV ⟨v,op,c'⟩ (w.setCell ⟨b,4,none⟩ (VD VJ m)) B b v0 v1 v2 its tx cuts:=by
 subst hm;obtain⟨h0,h1,h2,h3,h4,h5,h6⟩:=h;exact⟨h0,heap_setCell_same w b 4 _ _ _ h1,aF h2 (aQ h2 h1 (by decide)),aF h3 (aQ h3 h1 (by decide)),aF h4 (aQ h4 h1 (by decide)),aF h5 (aQ h5 h1 (by decide)),h6⟩
theorem BV.PR(h:BV ⟨v,op,c⟩ w B b v0 v1 v2 its tx cuts)(hg:w.grownBy w4 v.ownBlock)(hw:w.1.size<=W.1.size)(hf:oB W v v')(ho:w4.ownsRow B 36 3 v' eG.length (av eG)):BV ⟨v',eG,c⟩ (w4.setCell ⟨b,3,none⟩ v') B b v0 v1 v2 its tx cuts:=by
 obtain⟨h0,h1,h2,h3,h4,h5,h6⟩:=h;have hb4:w4.1[b]?=some (VK ⟨v0 :: v1 :: v2 :: Mo.l ⟨v,op,c⟩⟩ gZ (0,0)):=(hg.block b (ae h1) (λe=>aQ h5 h1 (by decide) e.symm)).trans h1;exact⟨h0,heap_setCell_same w4 b 3 _ _ v' hb4,aF (h2.kept hg h6) (aQ h2 h1 (by decide)),aF (h3.kept hg (cR h3 h5 (by decide))) (aQ h3 h1 (by decide)),aF (h4.kept hg (cR h4 h5 (by decide))) (aQ h4 h1 (by decide)),aF ho (aQ ho hb4 (by decide)),ul (xM h2 hw (ul h6) hf)⟩
theorem BV.at(h:BV ⟨v,op,c⟩ w B b v0 v1 v2 its tx cuts):w.cell? ⟨b,3,none⟩=some v/\w.cell? ⟨b,4,none⟩=some (VD VJ (c:Int))/\w.frozen? ⟨b,3,none⟩=false/\w.frozen? ⟨b,4,none⟩=false/\b<w.1.size/\B<=b:=by
 have hb:=h.2.1;exact⟨ai hb 3,ai hb 4,bg hb 3,bg hb 4,ae hb,h.1⟩
end
def oJ(mo:Mo)(w:VO)(B b:Nat)(its:List St.It)(tx:List UInt8)(cuts:List Nat)(k:Int)(t:List UInt8)(off:Nat)(e:Ending)(w':VO):Prop:=
 Below B w w'/\match St.stepT mo.op mo.c k t with
  | none=>e=VL (VD VJ 7)
  | some (i,eG,c')=>if 512<(St.aV (its++St.b8 tx) (k,t,i)).length\/1024<=cuts.length then e=VL (VD VJ 3)else
    e=VL (VD VJ 0)/\∃v',b7 ⟨v',eG,c'⟩ w' B b (its++St.b8 tx++[(k,t,i)]) [] (cuts++[off])
section
variable {mo:Mo} {w:VO} {B b:Nat} {its:List St.It} {tx:List UInt8} {cuts:List Nat} {k:Int} {t:List UInt8} {off:Nat} {w':VO} {i:Int} {eG:List St.It} {c':Nat}
theorem vt{f:List St.It}{t:List UInt8}(k:Int)(s:List UInt8)(i:Int)(nc:Nat)(hk:k≠1):(512<(St.aV (f++St.b8 t) (k,s,i)).length\/1024<=nc) ↔ St.aT f.length t.length nc false=true:=by
 rw[<-St.jA (f:=f) (t:=t) k s nc hk]
 have e:(St.aV (f++St.b8 t) (k,s,i)).length=(St.aV (f++St.b8 t) (k,s,0)).length:=by
  unfold St.aV;rw[if_neg hk,if_neg hk];simp
 rw[e]
theorem Below.ah{B:Nat}{a b c:VO}(h:Below B a b)(hB:B<=b.1.size)(u:ac b c):Below B a c:=h.trans (u.below.mono hB)
theorem DD(h:St.stepT mo.op mo.c k t=none)(hb:Below B w w'):oJ mo w B b its tx cuts k t off (VL (VD VJ 7)) w':=by
 refine⟨hb,?_⟩;rw[h]
theorem xm(h:St.stepT mo.op mo.c k t=some (i,eG,c'))(hk:k≠1)(hf:St.aT its.length tx.length cuts.length false=true)(hb:Below B w w'):oJ mo w B b its tx cuts k t off (VL (VD VJ 3)) w':=by
 refine⟨hb,?_⟩;rw[h];simp only;rw[if_pos ((vt k t i cuts.length hk).2 hf)];trivial
theorem xn(h:St.stepT mo.op mo.c k t=some (i,eG,c'))(hk:k≠1)(hf:St.aT its.length tx.length cuts.length false=false)(hb:Below B w w'){v':Value}(hB:b7 ⟨v',eG,c'⟩ w' B b (its++St.b8 tx++[(k,t,i)]) [] (cuts++[off])):oJ mo w B b its tx cuts k t off (VL (VD VJ 0)) w':=by
 refine⟨hb,?_⟩;rw[h];simp only;rw[if_neg (λh2=>by rw[(vt k t i cuts.length hk).1 h2]at hf;cases hf)];exact⟨trivial,v',hB⟩
end
theorem Fj(mo:Mo)(w:VO)(B b:Nat)(its:List St.It)(tx:List UInt8)(cuts:List Nat)(k:Int)(x:ByteArray)(off:Nat)(h:b7 mo w B b its tx cuts)(hk:k=2\/k=3\/k=4)(h1:its.length<=512)(h2:cuts.length<=1024)(h3:tx.length<=cuts.length)(h4:mo.op.length<=2000)(h5:mo.c<=2000)(h6:aP mo.op<=4611686018427387904)(hBw:B<=w.1.size)
  (hx:x.size<=4611686018427387904) :
  Calls Tryz.prog 198 #[VH (some ⟨b,0,none⟩),.agg #[VD VJ k,VE x,VD VJ 0],VD VJ off] w (oJ mo w B b its tx cuts k x.1.1 off):=by
 obtain⟨v,op,c⟩:=mo;simp only at h4 h5 h6;obtain⟨v0,v1,v2,hv⟩:=h;obtain⟨A3,c3,rfl,hc31,hc32⟩:=aC (show w.ownsRow B 36 3 v op.length (av op)from hv.2.2.2.2.2.1);obtain⟨g3,g4,f3,f4,hblt,hBb⟩:=hv.at;have g3':w.cell? ⟨b,3,none⟩=some (VF A3 op.length c3):=g3;clear g3;haveI:af b w:=af.of hblt;have HV:=aa hv;rcases hk with rfl|rfl|rfl
 ·
  have HST:=aa (show St.stepT (⟨VF A3 op.length c3,op,c⟩:Mo).op c 2 x.1.1=some ((c:Int)+1,op++[(2,x.1.1,(c:Int)+1)],c+1)from rfl);clear hv;obtain⟨i0,hi,hz0,hz1,hz2⟩:=info_parts dA;go_enter Tryz.func198,Tryz.ntmps198;go_wp2_with fail;have jq:ac (w.setCell ⟨b,4,none⟩ (VD VJ ((c:Int)+1))) ((w.setCell ⟨b,4,none⟩ (VD VJ ((c:Int)+1))).alloc (VK #[VD VJ 2,VE x,VD VJ ((c:Int)+1)] 36)):=uZ;have CQ:=aa ((BV.ON (c':=c+1) HV.out ((c:Int)+1) (by omega)).ah jq);have ph:=aa (aO (w.setCell ⟨b,4,none⟩ (VD VJ ((c:Int)+1))) (VK #[VD VJ 2,VE x,VD VJ ((c:Int)+1)] 36) w.1.size (by simp));have Tp:B<=((w.setCell ⟨b,4,none⟩ (VD VJ ((c:Int)+1))).alloc (VK #[VD VJ 2,VE x,VD VJ ((c:Int)+1)] 36)).1.size:=by simp;omega
  have P2:=aa ((((Below.refl B w).setCell (p:=⟨b,4,none⟩) hBb (.int .i64 ((c:Int)+1))).alloc (by simp;omega) (Obj.cells #[.int .i64 2,.string x,.int .i64 ((c:Int)+1)] 36)));clear jq;generalize(w.setCell ⟨b,4,none⟩ (.int .i64 ((c:Int)+1))).alloc (Obj.cells #[.int .i64 2,.string x,.int .i64 ((c:Int)+1)] 36)=W8 at *;obtain⟨q3,_,qf3,_,hlt8,_⟩:=CQ.out.at;have q3':W8.cell? ⟨b,3,none⟩=some (.slice A3 op.length c3):=q3;have x0:W8.cell? ⟨w.1.size,0,none⟩=some (.int .i64 2):=ai ph.out 0;have x1:W8.cell? ⟨w.1.size,1,none⟩=some (.string x):=ai ph.out 1;have x2:W8.cell? ⟨w.1.size,2,none⟩=some (.int .i64 ((c:Int)+1)):=ai ph.out 2;haveI:af w.1.size W8:=af.of (ae ph.out);haveI:af b W8:=af.of hlt8;have eS:=aa (show W8.ownsRow B 36 3 (.slice A3 op.length c3) op.length (av op)from CQ.out.2.2.2.2.2.1);clear q3;generalize hno:op.length=no at *;go_region_law (refine iV rfl (.tmp 72) (.tmp 74) 37 rfl B 36 i0 (.agg #[.int .i64 0,.string ⟨#[]⟩,.int .i64 0]) 3 32 Tryz.underlying37 hi hz0 hz1 hz2 rfl (by decide) (.slice A3 no c3) no _ rfl (dZ (eS.out.alloc (.cells #[.int .i64 2,.string x,.int .i64 ((c:Int)+1)] 36)) (ac.refl _).drew) ⟨W8.1.size,0,none⟩ 1 1 [.int .i64 2,.string x,.int .i64 ((c:Int)+1)] rfl rfl (ee W8 _ _ _ 36 _ rfl) (cG 2 ((c:Int)+1) _) (by unfold maxLen;omega) (by omega) (by simp;omega) ?_;intro v' w1 hown' hgrow sj;have hgr:=aK (ac.gb (uZ:ac W8 (W8.alloc (.cells #[.int .i64 2,.string x,.int .i64 ((c:Int)+1)] 36)).drew) (Value.slice A3 no c3).ownBlock) hgrow (λg e=>Or.inl e);have hb4:=(hgr.block b hlt8 (λe=>aQ eS.out CQ.out.2.1 (by decide) e.symm)).trans CQ.out.2.1;have e3:w1.cell? ⟨b,3,none⟩=some (.slice A3 no c3):=ai hb4 3;have f3':w1.frozen? ⟨b,3,none⟩=false:=bg hb4 3;haveI:af b w1:=af.of (ae hb4);obtain⟨A',c',rfl,_⟩:=aC hown')
  all_goals
   have Az:BV ⟨VF A' (no+1) c',op++[(2,x.1.1,(c:Int)+1)],c+1⟩ (w1.setCell ⟨b,3,none⟩ (VF A' (no+1) c')) B b v0 v1 v2 its tx cuts:=by
    refine BV.PR CQ.out (by simpa using hgr) (by simp) sj ?_;rw[List.length_append,List.length_singleton,hno,bw];simp only[aX];exact hown'
   have AL:(w1.setCell ⟨b,3,none⟩ (VF A' (no+1) c')).1[w.1.size]?=some (VK #[VD VJ 2,VE x,VD VJ ((c:Int)+1)] 36):=by
    rw[heap_setCell_other _ _ _ _ (by show w.1.size≠b;omega)];refine(hgr.block _ (ae ph.out) (λe=>?_)).trans ph.out;have:=(HV.out.2.2.2.2.2.1.lt w.1.size (by rw[e])).2
    omega
   have ur:Below B w (w1.setCell ⟨b,3,none⟩ (VF A' (no+1) c')):=dn P2.out Tp hgr (λg hg=>ax eS.out g hg) hBb;have Gs:B<=(w1.setCell ⟨b,3,none⟩ (VF A' (no+1) c')).1.size:=Nat.le_trans hBw ur.size;have FV:=aa Az;have kW:=aa AL;have FB:=aa ur;clear Az AL ur hgr hgrow hown' hb4 sj e3 f3' CQ ph P2 eS x0 x1 x2 q3' qf3;generalize w1.setCell ⟨b,3,none⟩ (VF A' (no+1) c')=W9 at *;go_wp2_with fail;have HIT:=aa (kB W9.drew B b its tx cuts 2 ((c:Int)+1) x off (b7.ah ⟨_,_,_,FV.out⟩ ((ac.refl W9).drew)) (by omega) (by omega) (by omega) Gs);have x0:W9.cell? ⟨w.1.size,0,none⟩=some (VD VJ 2):=ai kW.out 0;have x1:W9.cell? ⟨w.1.size,1,none⟩=some (VE x):=ai kW.out 1;have x2:W9.cell? ⟨w.1.size,2,none⟩=some (VD VJ ((c:Int)+1)):=ai kW.out 2;haveI:af w.1.size W9:=af.of (ae kW.out);refine bt (λ_ _=>True) (λL W=>if L 5=true then(St.aT its.length tx.length cuts.length false=false->b7 ⟨VF A' (no+1) c',op++[(2,x.1.1,(c:Int)+1)],c+1⟩ W B b (its++St.b8 tx++[(2,x.1.1,((c:Int)+1))]) [] (cuts++[off]))/\Below B W9.drew W else W=W9.drew) ([λv _=>v=VH (some ⟨b,0,none⟩),λv _=>v=VH (some ⟨b,0,none⟩),λv _=>v=VH (some ⟨b,0,none⟩),λv _=>v=.agg #[VD VJ 2,VE x,VD VJ ((c:Int)+1)],λv _=>v=VD VJ (off:Int),λv _=>v=VG (!St.aT its.length tx.length cuts.length false),λv _=>v=VD VJ (il (!St.aT its.length tx.length cuts.length false)),λv _=>v=VD VJ (il (!St.aT its.length tx.length cuts.length false))]) (λ_=>trivial) (λ_ _ _ _ _=>trivial) (by kernel_rfl) (by rfl) (by kernel_rfl) (by kernel_rfl) ?_ ?_ ?_ ?_ ?_;rotate_left 1
   ·intro ρ;simp only[bP,Act.put,ap,ak,aq,Nat.zero_add,Nat.reduceAdd];exact rfl
   ·simp
   ·refine aj.cons (λρ L W hR hI hL hD hO hF K hK=>?_) ?_
    ·clear hF hD hO hR;simp only[Act.put,ap,ak,aq]at hK |-;go_simp;refine hK _ _ trivial (by simpa[ar]using hI) (λ_ _=>rfl)
    refine aj.cons (λρ L W hR hI hL hD hO hF K hK=>?_) ?_
    ·have f0:=ag hF (j:=0) (by decide);clear hF hD hO hR;simp only[Act.put,ap,ak,aq]at hK |-;have e0:ρ 0=VH (some ⟨b,0,none⟩):=f0;rw[e0]at hK |-;go_simp;refine hK _ _ trivial (by simpa[ar]using hI) (λ_ _=>rfl)
    refine aj.cons (λρ L W hR hI hL hD hO hF K hK=>?_) ?_
    ·have f1:=ag hF (j:=1) (by decide);clear hF hD hO hR;simp only[Act.put,ap,ak,aq]at hK |-;have e1:ρ 1=VH (some ⟨b,0,none⟩):=f1;rw[e1]at hK |-;go_simp;refine hK _ _ trivial (by simpa[ar]using hI) (λ_ _=>rfl)
    refine aj.cons (λρ L W hR hI hL hD hO hF K hK=>?_) ?_
    ·have jB:L 5=false:=hD.not (p:=5) rfl (by decide) hL;rw[if_neg (by rw[jB];decide)]at hI;subst hI;clear hF hD hO hR;simp only[Act.put,ap,ak,aq]at hK |-;go_simp;refine hK _ _ trivial (by simp[ar,jB]) (λ_ _=>rfl)
    refine aj.cons (λρ L W hR hI hL hD hO hF K hK=>?_) ?_
    ·clear hF hD hO hR;simp only[Act.put,ap,ak,aq]at hK |-;go_simp;refine hK _ _ trivial (by simpa[ar]using hI) (λ_ _=>rfl)
    refine aj.cons (λρ L W hR hI hL hD hO hF K hK=>?_) ?_
    ·have f2:=ag hF (j:=2) (by decide);have f3:=ag hF (j:=3) (by decide);have f4:=ag hF (j:=4) (by decide);rw[if_neg (by rw[hL];decide)]at hI;subst hI;clear hF hD hO hR;simp only[Act.put,ap,ak,aq]at hK |-;have e2:ρ 2=VH (some ⟨b,0,none⟩):=f2;have e3:ρ 3=.agg #[VD VJ 2,VE x,VD VJ ((c:Int)+1)]:=f3;have e4:ρ 4=VD VJ (off:Int):=f4;rw[e2,e3,e4]at hK |-;go_simp;go_at_call 164;refine HIT.out.mono ?_;rintro e W2 ⟨rfl,h1,h2⟩;exact hK _ _ trivial (by simp only[ar,if_true];exact⟨h1,h2⟩) (λ_ _=>rfl)
    refine aj.cons (λρ L W hR hI hL hD hO hF K hK=>?_) ?_
    ·have f5:=ag hF (j:=5) (by decide);clear hF hD hO hR;simp only[Act.put,ap,ak,aq]at hK |-;have e5:ρ 5=VG (!St.aT its.length tx.length cuts.length false):=f5;rw[e5]at hK |-;go_simp;go_at_call 200;refine(jW _ _).mono ?_;rintro e W2 ⟨rfl,rfl⟩;exact hK _ _ trivial (by simpa[ar]using hI) (λ_ _=>rfl)
    refine aj.cons (λρ L W hR hI hL hD hO hF K hK=>?_) ?_
    ·have f6:=ag hF (j:=6) (by decide);clear hF hD hO hR;simp only[Act.put,ap,ak,aq]at hK |-;have e6:ρ 6=VD VJ (il (!St.aT its.length tx.length cuts.length false)):=f6;rw[e6]at hK |-;go_simp;refine hK _ _ trivial (by simpa[ar]using hI) (λ_ _=>rfl)
    exact aj.nil
   intro ρ L W hR hI hL hF;obtain⟨_,_,_,_,_,_,_,g7,_⟩:=hF;have g7:ρ 7=VD VJ (il (!St.aT its.length tx.length cuts.length false)):=g7;rw[g7];clear g7 hR;rw[if_pos (hL 5 (by decide))]at hI;obtain⟨eO,hbl⟩:=hI;have cX:=aa (Below.trans FB.out (Below.trans ((Below.refl B W9).drew) hbl));have iq:=aa eO;clear eO hbl hL;cases hfu:St.aT its.length tx.length cuts.length false
   ·have ck:=aa hfu;clear hfu;go_wp2;go_ret;exact xn HST.out (by decide) ck.out cX.out (iq.out ck.out)
   have ck:=aa hfu;clear hfu;go_wp2;go_ret;exact xm HST.out (by decide) ck.out cX.out
 ·rcases St.dD op with rfl|⟨o1,o,rfl⟩
  ·
   have HST:=aa (show St.stepT (⟨VF A3 ([]:List St.It).length c3,[],c⟩:Mo).op c 3 x.1.1=none from rfl);simp only[List.length_nil]at g3';have z0:((0:Int)==0)=true:=rfl;clear hv;go_enter Tryz.func198,Tryz.ntmps198;go_wp2_with fail
   first|refine aB (by kernel_rfl) (by kernel_rfl) ?_|refine aI (by kernel_rfl) (by kernel_rfl) ?_
   repeat (go_big_quiet_step (first|(fail)))
   refine wpQuiet_nil ?_;rintro _ ⟨X,rfl⟩;go_wp2;go_ret;exact DD HST.out (Below.ah (Below.refl _ _) hBw uZ)
  ·
   obtain⟨m,hm⟩:∃m,o1.length=m:=⟨_,rfl⟩;have hol:(o1++[o]).length=m+1:=by simp[hm]
   have bB:=hv.2.2.2.2.2.1;simp only at bB;rw[hol]at g3' bB;obtain⟨g,rfl,jD,hgl,hgc⟩:=dY bB (by omega);have GK:(o1++[o])[m]?=some o:=by rw[<-hm];simp
   have hcs:=jT (o1++[o]) m (by rw[hol];omega);have yb:(o1++[o])[m]'(by rw[hol];omega)=o:=Option.some.inj ((List.getElem?_eq_getElem (by rw[hol];omega)).symm.trans GK);rw[yb]at hcs;have i1:=hgc _ _ hcs.2.1;have i2:=hgc _ _ hcs.2.2
   have Om:o.2.1.length<=4611686018427387904:=by
    have:aP (o1++[o])=aP o1+o.2.1.length:=ci o1 o
    omega
   obtain⟨ok,ot,oi⟩:=o;simp only at i1 i2 Om;haveI:af g w:=af.of hgl;have z0:(((m+1:Nat):Int)==0)=false:=by simp;omega
   have tZ:((m:Int)+1==0)=false:=by simp;omega
   have z3:(m:Int)<((m+1:Nat):Int):=by omega
   have Ve:m+1<=c3:=by omega
   have AV:m<=2000:=by omega
   have FK:=aa hol;have eS:=aa bB;have bk:=aa (λW=>o0 ot W (by omega));have HM:=aa hm;clear hv hcs hgc GK yb hol bB hm;obtain⟨sb,mX⟩:∃sb:ByteArray,(⟨ot.toArray⟩:ByteArray)=sb:=⟨_,rfl⟩;obtain⟨nb,hnb⟩:∃nb:ByteArray,(⟨(St.nameOf ot).toArray⟩:ByteArray)=nb:=⟨_,rfl⟩;rw[mX,hnb]at bk;rw[mX]at i1;have hnl:nb.1.1=St.nameOf ot:=by rw[<-hnb]
   clear mX hnb;obtain⟨bq,hq⟩:∃bq,(nb.toList != x.toList)=bq:=⟨_,rfl⟩
   have hst:St.stepT (⟨VF (some ⟨g,0,none⟩) (m+1) c3,o1++[(ok,ot,oi)],c⟩:Mo).op c 3 x.1.1=if bq then none else some (oi,o1,c):=by
    show St.stepT (o1++[(ok,ot,oi)]) c 3 x.1.1=_
    unfold St.stepT;simp only[if_true,List.getLast?_append,List.getLast?_singleton,Option.some_or,List.dropLast_concat];cases bq
    ·rw[bne_eq_false_iff_eq,Lib.toList_data,Lib.toList_data,hnl]at hq;rw[if_pos hq];rfl
    rw[bne_iff_ne,Lib.toList_data,Lib.toList_data,hnl]at hq;rw[if_neg hq];rfl
   have HST:=aa hst;clear hst hnl;go_enter Tryz.func198,Tryz.ntmps198;go_wp2_with fail
   first|refine aB (by kernel_rfl) (by kernel_rfl) ?_|refine aI (by kernel_rfl) (by kernel_rfl) ?_
   repeat (go_big_quiet_step (first|(go_at_call 129;exact Calls.cK (bk.out _))))
   refine wpQuiet_nil ?_;rintro _ ⟨X,rfl⟩;have hI:ac (w.alloc (VK #[VD VJ 3,VE x,VD VJ 0] 36)) (under (w.alloc (VK #[VD VJ 3,VE x,VD VJ 0] 36)) X):=⟨X,rfl⟩;generalize under (w.alloc (VK #[VD VJ 3,VE x,VD VJ 0] 36)) X=W at *;have HU:=aa (((ac.refl w).alloc _).trans hI);cases bq;rotate_left 1
   ·have Oq:(nb.toList==x.toList)=false:=by simpa using hq
    have GM:(!(nb.toList==x.toList))=true:=hq;simp only[GM];clear hI;go_wp2;go_ret;exact DD HST.out (Below.ah (Below.refl _ _) hBw HU.out)
   have Oq:(nb.toList==x.toList)=true:=by simpa using hq
   have GM:(!(nb.toList==x.toList))=false:=hq;simp only[GM];obtain⟨qa,_,qf3,_,hltb,_⟩:=(HV.out.ah HU.out).at;clear qa;have q3:W.cell? ⟨b,3,none⟩=some (VF (some ⟨g,0,none⟩) (m+1) c3):=(HU.out.cell (p:=⟨b,3,none⟩) hblt).trans g3';have q2:W.cell? ⟨g,m*3+2,none⟩=some (VD VJ oi):=(HU.out.cell (p:=⟨g,m*3+2,none⟩) hgl).trans i2;have cV:=(hI.below.block w.1.size (by simp)).trans (aO w (VK #[VD VJ 3,VE x,VD VJ 0] 36) w.1.size rfl);have x2:W.cell? ⟨w.1.size,2,none⟩=some (VD VJ 0):=ai cV 2;have Li:W.frozen? ⟨w.1.size,2,none⟩=false:=bg cV 2;have Uh:W.cell? ⟨w.1.size,0,none⟩=some (VD VJ 3):=ai cV 0;have hbb:¬b=w.1.size:=by omega
   have wN:¬w.1.size=b:=by omega
   haveI:af b W:=af.of hltb;haveI:af w.1.size W:=af.of (ae cV);haveI:af g W:=af.of (Nat.lt_of_lt_of_le hgl HU.out.size);have ph:=aa cV;have aW:=aa (HU.out.setCell (p:=⟨w.1.size,2,none⟩) (Nat.le_refl _) (VD VJ oi));clear hI cV;go_wp2_with fail;have hos:W.ownsRow B 36 3 (VF (some ⟨g,0,none⟩) (m+1) c3) (m+1) (av (o1++[(ok,ot,oi)])):=aA HU.out eS.out
   have ED:(av (o1++[(ok,ot,oi)])).take (m*3)=av o1:=by
    rw[bw,List.take_left' (by rw[jz,HM.out])]
   have hsh:=tR hos m (by omega);rw[ED]at hsh
   have Az:BV ⟨VF (some ⟨g,0,none⟩) m c3,o1,c⟩ ((W.setCell ⟨w.1.size,2,none⟩ (VD VJ oi)).setCell ⟨b,3,none⟩ (VF (some ⟨g,0,none⟩) m c3)) B b v0 v1 v2 its tx cuts:=by
    refine BV.SA (HV.out.ah aW.out) ?_ rfl;have:=aF (b:=w.1.size) (i:=2) (u:=VD VJ oi) hsh (by simp[Value.ownBlock];omega)
    rw[HM.out];exact this
   have AL:((W.setCell ⟨w.1.size,2,none⟩ (VD VJ oi)).setCell ⟨b,3,none⟩ (VF (some ⟨g,0,none⟩) m c3)).1[w.1.size]?=some (VK #[VD VJ 3,VE x,VD VJ oi] 36):=by
    rw[heap_setCell_other _ _ _ _ (by show w.1.size≠b;omega)];exact heap_setCell_same _ _ 2 _ _ _ ph.out
   have ur:Below B w ((W.setCell ⟨w.1.size,2,none⟩ (VD VJ oi)).setCell ⟨b,3,none⟩ (VF (some ⟨g,0,none⟩) m c3)):=(Below.ah (Below.refl _ _) hBw aW.out).setCell (p:=⟨b,3,none⟩) hBb _;have Gs:B<=((W.setCell ⟨w.1.size,2,none⟩ (VD VJ oi)).setCell ⟨b,3,none⟩ (VF (some ⟨g,0,none⟩) m c3)).1.size:=Nat.le_trans hBw ur.size;have FV:=aa Az;have kW:=aa AL;have FB:=aa ur;clear Az AL ur hsh ED hos HU aW ph Uh x2 Li q2 q3 qf3;generalize(W.setCell ⟨w.1.size,2,none⟩ (VD VJ oi)).setCell ⟨b,3,none⟩ (VF (some ⟨g,0,none⟩) m c3)=W9 at *;go_wp2_with fail;have HIT:=aa (kB W9.drew B b its tx cuts 3 oi x off (b7.ah ⟨_,_,_,FV.out⟩ ((ac.refl W9).drew)) (by omega) (by omega) (by omega) Gs);have x0:W9.cell? ⟨w.1.size,0,none⟩=some (VD VJ 3):=ai kW.out 0;have x1:W9.cell? ⟨w.1.size,1,none⟩=some (VE x):=ai kW.out 1;have x2:W9.cell? ⟨w.1.size,2,none⟩=some (VD VJ oi):=ai kW.out 2;haveI:af w.1.size W9:=af.of (ae kW.out);refine bt (λ_ _=>True) (λL W=>if L 5=true then(St.aT its.length tx.length cuts.length false=false->b7 ⟨VF (some ⟨g,0,none⟩) m c3,o1,c⟩ W B b (its++St.b8 tx++[(3,x.1.1,oi)]) [] (cuts++[off]))/\Below B W9.drew W else W=W9.drew) ([λv _=>v=VH (some ⟨b,0,none⟩),λv _=>v=VH (some ⟨b,0,none⟩),λv _=>v=VH (some ⟨b,0,none⟩),λv _=>v=.agg #[VD VJ 3,VE x,VD VJ oi],λv _=>v=VD VJ (off:Int),λv _=>v=VG (!St.aT its.length tx.length cuts.length false),λv _=>v=VD VJ (il (!St.aT its.length tx.length cuts.length false)),λv _=>v=VD VJ (il (!St.aT its.length tx.length cuts.length false))]) (λ_=>trivial) (λ_ _ _ _ _=>trivial) (by kernel_rfl) (by rfl) (by kernel_rfl) (by kernel_rfl) ?_ ?_ ?_ ?_ ?_;rotate_left 1
   ·intro ρ;simp only[bP,Act.put,ap,ak,aq,Nat.zero_add,Nat.reduceAdd];exact rfl
   ·simp
   ·refine aj.cons (λρ L W hR hI hL hD hO hF K hK=>?_) ?_
    ·clear hF hD hO hR;simp only[Act.put,ap,ak,aq]at hK |-;go_simp;refine hK _ _ trivial (by simpa[ar]using hI) (λ_ _=>rfl)
    refine aj.cons (λρ L W hR hI hL hD hO hF K hK=>?_) ?_
    ·have f0:=ag hF (j:=0) (by decide);clear hF hD hO hR;simp only[Act.put,ap,ak,aq]at hK |-;have e0:ρ 0=VH (some ⟨b,0,none⟩):=f0;rw[e0]at hK |-;go_simp;refine hK _ _ trivial (by simpa[ar]using hI) (λ_ _=>rfl)
    refine aj.cons (λρ L W hR hI hL hD hO hF K hK=>?_) ?_
    ·have f1:=ag hF (j:=1) (by decide);clear hF hD hO hR;simp only[Act.put,ap,ak,aq]at hK |-;have e1:ρ 1=VH (some ⟨b,0,none⟩):=f1;rw[e1]at hK |-;go_simp;refine hK _ _ trivial (by simpa[ar]using hI) (λ_ _=>rfl)
    refine aj.cons (λρ L W hR hI hL hD hO hF K hK=>?_) ?_
    ·have jB:L 5=false:=hD.not (p:=5) rfl (by decide) hL;rw[if_neg (by rw[jB];decide)]at hI;subst hI;clear hF hD hO hR;simp only[Act.put,ap,ak,aq]at hK |-;go_simp;refine hK _ _ trivial (by simp[ar,jB]) (λ_ _=>rfl)
    refine aj.cons (λρ L W hR hI hL hD hO hF K hK=>?_) ?_
    ·clear hF hD hO hR;simp only[Act.put,ap,ak,aq]at hK |-;go_simp;refine hK _ _ trivial (by simpa[ar]using hI) (λ_ _=>rfl)
    refine aj.cons (λρ L W hR hI hL hD hO hF K hK=>?_) ?_
    ·have f2:=ag hF (j:=2) (by decide);have f3:=ag hF (j:=3) (by decide);have f4:=ag hF (j:=4) (by decide);rw[if_neg (by rw[hL];decide)]at hI;subst hI;clear hF hD hO hR;simp only[Act.put,ap,ak,aq]at hK |-;have e2:ρ 2=VH (some ⟨b,0,none⟩):=f2;have e3:ρ 3=.agg #[VD VJ 3,VE x,VD VJ oi]:=f3;have e4:ρ 4=VD VJ (off:Int):=f4;rw[e2,e3,e4]at hK |-;go_simp;go_at_call 164;refine HIT.out.mono ?_;rintro e W2 ⟨rfl,h1,h2⟩;exact hK _ _ trivial (by simp only[ar,if_true];exact⟨h1,h2⟩) (λ_ _=>rfl)
    refine aj.cons (λρ L W hR hI hL hD hO hF K hK=>?_) ?_
    ·have f5:=ag hF (j:=5) (by decide);clear hF hD hO hR;simp only[Act.put,ap,ak,aq]at hK |-;have e5:ρ 5=VG (!St.aT its.length tx.length cuts.length false):=f5;rw[e5]at hK |-;go_simp;go_at_call 200;refine(jW _ _).mono ?_;rintro e W2 ⟨rfl,rfl⟩;exact hK _ _ trivial (by simpa[ar]using hI) (λ_ _=>rfl)
    refine aj.cons (λρ L W hR hI hL hD hO hF K hK=>?_) ?_
    ·have f6:=ag hF (j:=6) (by decide);clear hF hD hO hR;simp only[Act.put,ap,ak,aq]at hK |-;have e6:ρ 6=VD VJ (il (!St.aT its.length tx.length cuts.length false)):=f6;rw[e6]at hK |-;go_simp;refine hK _ _ trivial (by simpa[ar]using hI) (λ_ _=>rfl)
    exact aj.nil
   intro ρ L W hR hI hL hF;obtain⟨_,_,_,_,_,_,_,g7,_⟩:=hF;have g7:ρ 7=VD VJ (il (!St.aT its.length tx.length cuts.length false)):=g7;rw[g7];clear g7 hR;rw[if_pos (hL 5 (by decide))]at hI;obtain⟨eO,hbl⟩:=hI;have cX:=aa (Below.trans FB.out (Below.trans ((Below.refl B W9).drew) hbl));have iq:=aa eO;clear eO hbl hL;cases hfu:St.aT its.length tx.length cuts.length false
   ·have ck:=aa hfu;clear hfu;go_wp2;go_ret;exact xn HST.out (by decide) ck.out cX.out (iq.out ck.out)
   have ck:=aa hfu;clear hfu;go_wp2;go_ret;exact xm HST.out (by decide) ck.out cX.out
 ·
  have HST:=aa (show St.stepT (⟨VF A3 op.length c3,op,c⟩:Mo).op c 4 x.1.1=some ((c:Int)+1,op,c+1)from rfl);clear hv;go_enter Tryz.func198,Tryz.ntmps198;go_wp2_with fail;have kN:ac (w.setCell ⟨b,4,none⟩ (VD VJ ((c:Int)+1))) ((w.setCell ⟨b,4,none⟩ (VD VJ ((c:Int)+1))).alloc (VK #[VD VJ 4,VE x,VD VJ ((c:Int)+1)] 36)):=uZ;have FV:=aa ((BV.ON (c':=c+1) HV.out ((c:Int)+1) (by omega)).ah kN);have kW:=aa (aO (w.setCell ⟨b,4,none⟩ (VD VJ ((c:Int)+1))) (VK #[VD VJ 4,VE x,VD VJ ((c:Int)+1)] 36) w.1.size (by simp));have Gs:B<=((w.setCell ⟨b,4,none⟩ (VD VJ ((c:Int)+1))).alloc (VK #[VD VJ 4,VE x,VD VJ ((c:Int)+1)] 36)).1.size:=by simp;omega
  have FB:=aa ((((Below.refl B w).setCell (p:=⟨b,4,none⟩) hBb (VD VJ ((c:Int)+1))).alloc (by simp;omega) (VK #[VD VJ 4,VE x,VD VJ ((c:Int)+1)] 36)));clear kN;generalize(w.setCell ⟨b,4,none⟩ (VD VJ ((c:Int)+1))).alloc (VK #[VD VJ 4,VE x,VD VJ ((c:Int)+1)] 36)=W9 at *;have HIT:=aa (kB W9.drew B b its tx cuts 4 ((c:Int)+1) x off (b7.ah ⟨_,_,_,FV.out⟩ ((ac.refl W9).drew)) (by omega) (by omega) (by omega) Gs);have x0:W9.cell? ⟨w.1.size,0,none⟩=some (VD VJ 4):=ai kW.out 0;have x1:W9.cell? ⟨w.1.size,1,none⟩=some (VE x):=ai kW.out 1;have x2:W9.cell? ⟨w.1.size,2,none⟩=some (VD VJ ((c:Int)+1)):=ai kW.out 2;haveI:af w.1.size W9:=af.of (ae kW.out);refine bt (λ_ _=>True) (λL W=>if L 5=true then(St.aT its.length tx.length cuts.length false=false->b7 ⟨VF A3 op.length c3,op,c+1⟩ W B b (its++St.b8 tx++[(4,x.1.1,((c:Int)+1))]) [] (cuts++[off]))/\Below B W9.drew W else W=W9.drew) ([λv _=>v=VH (some ⟨b,0,none⟩),λv _=>v=VH (some ⟨b,0,none⟩),λv _=>v=VH (some ⟨b,0,none⟩),λv _=>v=.agg #[VD VJ 4,VE x,VD VJ ((c:Int)+1)],λv _=>v=VD VJ (off:Int),λv _=>v=VG (!St.aT its.length tx.length cuts.length false),λv _=>v=VD VJ (il (!St.aT its.length tx.length cuts.length false)),λv _=>v=VD VJ (il (!St.aT its.length tx.length cuts.length false))]) (λ_=>trivial) (λ_ _ _ _ _=>trivial) (by kernel_rfl) (by rfl) (by kernel_rfl) (by kernel_rfl) ?_ ?_ ?_ ?_ ?_;rotate_left 1
  ·intro ρ;simp only[bP,Act.put,ap,ak,aq,Nat.zero_add,Nat.reduceAdd];exact rfl
  ·simp
  ·refine aj.cons (λρ L W hR hI hL hD hO hF K hK=>?_) ?_
   ·clear hF hD hO hR;simp only[Act.put,ap,ak,aq]at hK |-;go_simp;refine hK _ _ trivial (by simpa[ar]using hI) (λ_ _=>rfl)
   refine aj.cons (λρ L W hR hI hL hD hO hF K hK=>?_) ?_
   ·have f0:=ag hF (j:=0) (by decide);clear hF hD hO hR;simp only[Act.put,ap,ak,aq]at hK |-;have e0:ρ 0=VH (some ⟨b,0,none⟩):=f0;rw[e0]at hK |-;go_simp;refine hK _ _ trivial (by simpa[ar]using hI) (λ_ _=>rfl)
   refine aj.cons (λρ L W hR hI hL hD hO hF K hK=>?_) ?_
   ·have f1:=ag hF (j:=1) (by decide);clear hF hD hO hR;simp only[Act.put,ap,ak,aq]at hK |-;have e1:ρ 1=VH (some ⟨b,0,none⟩):=f1;rw[e1]at hK |-;go_simp;refine hK _ _ trivial (by simpa[ar]using hI) (λ_ _=>rfl)
   refine aj.cons (λρ L W hR hI hL hD hO hF K hK=>?_) ?_
   ·have jB:L 5=false:=hD.not (p:=5) rfl (by decide) hL;rw[if_neg (by rw[jB];decide)]at hI;subst hI;clear hF hD hO hR;simp only[Act.put,ap,ak,aq]at hK |-;go_simp;refine hK _ _ trivial (by simp[ar,jB]) (λ_ _=>rfl)
   refine aj.cons (λρ L W hR hI hL hD hO hF K hK=>?_) ?_
   ·clear hF hD hO hR;simp only[Act.put,ap,ak,aq]at hK |-;go_simp;refine hK _ _ trivial (by simpa[ar]using hI) (λ_ _=>rfl)
   refine aj.cons (λρ L W hR hI hL hD hO hF K hK=>?_) ?_
   ·have f2:=ag hF (j:=2) (by decide);have f3:=ag hF (j:=3) (by decide);have f4:=ag hF (j:=4) (by decide);rw[if_neg (by rw[hL];decide)]at hI;subst hI;clear hF hD hO hR;simp only[Act.put,ap,ak,aq]at hK |-;have e2:ρ 2=VH (some ⟨b,0,none⟩):=f2;have e3:ρ 3=.agg #[VD VJ 4,VE x,VD VJ ((c:Int)+1)]:=f3;have e4:ρ 4=VD VJ (off:Int):=f4;rw[e2,e3,e4]at hK |-;go_simp;go_at_call 164;refine HIT.out.mono ?_;rintro e W2 ⟨rfl,h1,h2⟩;exact hK _ _ trivial (by simp only[ar,if_true];exact⟨h1,h2⟩) (λ_ _=>rfl)
   refine aj.cons (λρ L W hR hI hL hD hO hF K hK=>?_) ?_
   ·have f5:=ag hF (j:=5) (by decide);clear hF hD hO hR;simp only[Act.put,ap,ak,aq]at hK |-;have e5:ρ 5=VG (!St.aT its.length tx.length cuts.length false):=f5;rw[e5]at hK |-;go_simp;go_at_call 200;refine(jW _ _).mono ?_;rintro e W2 ⟨rfl,rfl⟩;exact hK _ _ trivial (by simpa[ar]using hI) (λ_ _=>rfl)
   refine aj.cons (λρ L W hR hI hL hD hO hF K hK=>?_) ?_
   ·have f6:=ag hF (j:=6) (by decide);clear hF hD hO hR;simp only[Act.put,ap,ak,aq]at hK |-;have e6:ρ 6=VD VJ (il (!St.aT its.length tx.length cuts.length false)):=f6;rw[e6]at hK |-;go_simp;refine hK _ _ trivial (by simpa[ar]using hI) (λ_ _=>rfl)
   exact aj.nil
  intro ρ L W hR hI hL hF;obtain⟨_,_,_,_,_,_,_,g7,_⟩:=hF;have g7:ρ 7=VD VJ (il (!St.aT its.length tx.length cuts.length false)):=g7;rw[g7];clear g7 hR;rw[if_pos (hL 5 (by decide))]at hI;obtain⟨eO,hbl⟩:=hI;have cX:=aa (Below.trans FB.out (Below.trans ((Below.refl B W9).drew) hbl));have iq:=aa eO;clear eO hbl hL;cases hfu:St.aT its.length tx.length cuts.length false
  ·have ck:=aa hfu;clear hfu;go_wp2;go_ret;exact xn HST.out (by decide) ck.out cX.out (iq.out ck.out)
  have ck:=aa hfu;clear hfu;go_wp2;go_ret;exact xm HST.out (by decide) ck.out cX.out
end
section
def mz(mo:Mo)(w:VO)(B b:Nat)(its:List St.It)(tx:List UInt8)(cuts:List Nat)(l:List UInt8)(off:Nat)(e:Ending)(w':VO):Prop:=
 Below B w w'/\match St.cE l with
  | none=>∃m:Int,e=VL (VI #[VD VJ m,VD VJ 2])
  | some (k,t,n)=>match St.stepT mo.op mo.c k t with
   | none=>∃m:Int,e=VL (VI #[VD VJ m,VD VJ 7])
   | some (i,eG,c')=>if 512<(St.aV (its++St.b8 tx) (k,t,i)).length\/1024<=cuts.length then ∃m:Int,e=VL (VI #[VD VJ m,VD VJ 3])else
    e=VL (VI #[VD VJ n,VD VJ 0])/\∃v' fy ja,b7 ⟨v',eG,c'⟩ w' B b fy ja (cuts++[off])/\St.fz fy/\fy++St.b8 ja=St.aV (its++St.b8 tx) (k,t,i)/\ja.length<=cuts.length+1
section
variable {mo:Mo} {w:VO} {B b:Nat} {its:List St.It} {tx:List UInt8} {cuts:List Nat} {l:List UInt8} {off:Nat} {w':VO} {n:Nat} {c:UInt8} {t:List UInt8} {m:Int}
theorem pY(h:St.cE l=none)(hb:Below B w w'):mz mo w B b its tx cuts l off (VL (VI #[VD VJ m,VD VJ 2])) w':=by
 refine⟨hb,?_⟩;rw[h];exact⟨m,rfl⟩
theorem Bq(h:St.cE l=some (1,[c],n))(hN:St.fz its)(hf:St.aT its.length tx.length cuts.length true=true)(hb:Below B w w'):mz mo w B b its tx cuts l off (VL (VI #[VD VJ m,VD VJ 3])) w':=by
 refine⟨hb,?_⟩;rw[h];simp only[St.stepT];rw[if_neg (by decide),if_neg (by decide),if_neg (by decide)];simp only;rw[if_pos ((St.kJ hN c cuts.length).2 hf)];exact⟨m,rfl⟩
theorem Bp(h:St.cE l=some (1,[c],n))(hN:St.fz its)(hf:St.aT its.length tx.length cuts.length true=false)(hb:Below B w w')
  (hB:b7 mo w' B b its (tx++[c]) (cuts++[off])) (ht:tx.length<=cuts.length) (hm:m=(n:Int)):mz mo w B b its tx cuts l off (VL (VI #[VD VJ m,VD VJ 0])) w':=by
 refine⟨hb,?_⟩;rw[h];simp only[St.stepT];rw[if_neg (by decide),if_neg (by decide),if_neg (by decide)];simp only;rw[if_neg (λh2=>by rw[(St.kJ hN c cuts.length).1 h2]at hf;cases hf),hm];exact⟨rfl,mo.v,its,tx++[c],hB,hN,(St.qj hN c).symm,by simp;omega⟩
theorem Hf(h:St.cE l=some (5,t,n))(hf:St.aT its.length tx.length cuts.length false=true)(hb:Below B w w'):mz mo w B b its tx cuts l off (VL (VI #[VD VJ m,VD VJ 3])) w':=by
 refine⟨hb,?_⟩;rw[h];simp only[St.stepT];rw[if_neg (by decide),if_neg (by decide),if_neg (by decide)];simp only;rw[if_pos ((St.jA 5 t cuts.length (by decide)).2 hf)];exact⟨m,rfl⟩
theorem JD(h:St.cE l=some (5,t,n))(hf:St.aT its.length tx.length cuts.length false=false)(hb:Below B w w')
  (hB:b7 mo w' B b (its++St.b8 tx++[(5,t,0)]) [] (cuts++[off])) (hm:m=(n:Int)):mz mo w B b its tx cuts l off (VL (VI #[VD VJ m,VD VJ 0])) w':=by
 refine⟨hb,?_⟩;rw[h];simp only[St.stepT];rw[if_neg (by decide),if_neg (by decide),if_neg (by decide)];simp only;rw[if_neg (λh2=>by rw[(St.jA 5 t cuts.length (by decide)).1 h2]at hf;cases hf),hm];exact⟨rfl,mo.v,_,[],hB,St.lx _ 5 t 0 (by decide),by rw[St.qk 5 t (by decide)];simp[St.b8],by simp⟩
theorem LO{w2:VO}{k:Int}{e:Ending}(h:St.cE l=some (k,t,n))(hk:k=2\/k=3\/k=4)(hm:m=(n:Int))(hw:Below B w w2)(ht:oJ mo w2 B b its tx cuts k t off e w'):∃er:Int,e=VL (VD VJ er)/\mz mo w B b its tx cuts l off (VL (VI #[VD VJ m,VD VJ er])) w':=by
 obtain⟨hb,hq⟩:=ht;have hk1:k≠1:=by omega
 unfold mz;rw[h];simp only;cases hs:St.stepT mo.op mo.c k t with
 | none=>rw[hs]at hq;exact⟨7,hq,hw.trans hb,m,rfl⟩
 | some y=>
  obtain⟨i,eG,c'⟩:=y;rw[hs]at hq;simp only at hq |-
  split at hq
  ·rename_i hf
   exact⟨3,hq,hw.trans hb,by rw[if_pos hf];exact⟨m,rfl⟩⟩
  rename_i hf
  obtain⟨he,v',hB⟩:=hq;refine⟨0,he,hw.trans hb,?_⟩;rw[if_neg hf];refine⟨by rw[hm],v',_,[],hB,St.lx _ k t i hk1,?_,by simp⟩;unfold St.aV;rw[if_neg hk1];simp[St.b8]
end
theorem kg(mo:Mo)(w:VO)(B b:Nat)(its:List St.It)(tx:List UInt8)(cuts:List Nat)(au:ByteArray)(a:Nat)(h:b7 mo w B b its tx cuts)(hN:St.fz its)(h1:its.length<=512)(h2:cuts.length<=1024)(h3:tx.length<=cuts.length)(h4:mo.op.length<=2000)(h5:mo.c<=2000)(h6:aP mo.op<=4611686018427387904)(hBw:B<=w.1.size)
  (ha:a<au.size) (hr:au.size<=4611686018427387904) :
  Calls Tryz.prog 172 #[VH (some ⟨b,0,none⟩),VE au,VD VJ a] w (mz mo w B b its tx cuts (au.1.1.drop a) a):=by
 obtain⟨s,hE⟩:∃s,au.extract a au.size=s:=⟨_,rfl⟩;have hsz:s.size=au.size-a:=by rw[<-hE];simp
 have hs0:0<s.size:=by omega
 have hl:s.1.1=au.1.1.drop a:=by rw[<-hE];simp;exact List.take_of_length_le (by simp)
 rw[<-hl];have hcr:s.1.1=s[0] :: s.1.1.drop 1:=St.ft s hs0;have ha1:(a:Int)<=au.size:=by omega
 have ha2:¬au.size<a:=by omega
 have hN':=aa hN;obtain⟨v0,v1,v2,hv⟩:=h;have hbl:=hv.2.1;have hblt:b<w.1.size:=ae hbl;have H:Hid (b7 mo w B b its tx cuts):=aa ⟨v0,v1,v2,hv⟩;have TL:s.size<=4611686018427387904:=by omega
 clear hl hv hbl hsz hN
 by_cases gT:s[0].toNat=60
 ·have hsl:=St.nA (r:=s.1.1.drop 1) gT;rw[<-hcr]at hsl;have NB:((s[0].toNat:Int)==60)=true:=by simp;omega
  have dR:=aa (Bt s w TL hs0 gT);unfold St.sv at hsl;clear hcr gT;cases hq:St.fP s.1.1 with
  | none=>
   rw[hq]at hsl dR;have br:=aa hsl;clear hsl hq;go_enter Tryz.func172,Tryz.ntmps172;go_wp2_with fail;refine dR.out.mono ?_;rintro e w2 ⟨hu,k,x,m,rfl⟩;have HU:=aa hu;clear hu dR;go_wp2;go_ret2;exact pY br.out (Below.ah (Below.refl _ _) hBw (HU.out.alloc _))
  | some q=>
   obtain⟨k,t,n⟩:=q;rw[hq]at hsl dR;simp only at hsl;have hkk:=(St.j3 hq).1
   have htl:t.length<=4611686018427387904:=by
    have:=St.j3 hq
    rw[St.aD]at this;omega
   have bk:=aa (λW=>o0 t W htl);cases hb:St.df (St.nameOf t)
   ·rw[hb]at hsl;simp only[Bool.false_eq_true,if_false]at hsl;have tH:=aa (λW=>lu ⟨(St.nameOf t).toArray⟩ W);rw[show St.df (⟨(St.nameOf t).toArray⟩:ByteArray).1.1=false from hb]at tH;have br:=aa hsl;obtain⟨tb,fl⟩:∃tb:ByteArray,(⟨t.toArray⟩:ByteArray)=tb:=⟨_,rfl⟩;obtain⟨nb,hnb⟩:∃nb:ByteArray,(⟨(St.nameOf t).toArray⟩:ByteArray)=nb:=⟨_,rfl⟩;have gj:tb.1.1=t:=by rw[<-fl]
    have Ss:tb.size<=4611686018427387904:=by rw[<-St.aD,gj];exact htl
    have Td:=aa (show ∀W',vg (some (k,t,n)) w (VL (VI #[.agg #[VD VJ k,VE tb,VD VJ 0],VD VJ n,VG true])) W'->ac w W' from λW' h=>h.1);rw[fl,hnb]at bk;rw[hnb]at tH;clear hsl hq hb hnb;go_enter Tryz.func172,Tryz.ntmps172;go_wp2_with fail;refine dR.out.mono ?_;rintro e w2 ⟨hu,he⟩;simp only at he;rw[fl]at he;subst he;have HU:=aa hu;clear hu dR Td;go_wp2_with fail;refine(bk.out _).mono ?_;rintro e w3 ⟨rfl,hu3⟩;have ba:=aa (HU.out.trans (ac.trans (uZ) hu3));have cV:=(hu3.below.block w2.1.size (by simp)).trans (aO w2 (VK #[VD VJ k,VE tb,VD VJ 0] 36) w2.1.size rfl);have x0:w3.cell? ⟨w2.1.size,0,none⟩=some (VD VJ k):=ai cV 0;have x1:w3.cell? ⟨w2.1.size,1,none⟩=some (VE tb):=ai cV 1;have x2:w3.cell? ⟨w2.1.size,2,none⟩=some (VD VJ 0):=ai cV 2;haveI:af w2.1.size w3:=af.of (ae cV);clear hu3 cV HU;go_wp2_with fail;refine(tH.out _).mono ?_;rintro e w4 ⟨rfl,rfl⟩;have cw:=Fj mo w3 B b its tx cuts k tb a (H.out.ah ba.out) (by omega) h1 h2 h3 h4 h5 h6 (Nat.le_trans hBw ba.out.size) Ss;rw[gj]at cw;have RT:=aa cw;clear cw;go_wp2_with fail;refine RT.out.mono ?_;intro e w5 hte;obtain⟨er,rfl,hend⟩:=LO (w:=w) (m:=(n:Int)) br.out (by omega) rfl (Below.ah (Below.refl _ _) hBw ba.out) hte;have Rs:=aa hend;clear hend hte x0 x1 x2;go_wp2;go_ret2;exact Rs.out
   rw[hb]at hsl;simp only[if_true]at hsl;have tH:=aa (λW=>lu ⟨(St.nameOf t).toArray⟩ W);rw[show St.df (⟨(St.nameOf t).toArray⟩:ByteArray).1.1=true from hb]at tH;have br:=aa hsl;obtain⟨tb,fl⟩:∃tb:ByteArray,(⟨t.toArray⟩:ByteArray)=tb:=⟨_,rfl⟩;obtain⟨nb,hnb⟩:∃nb:ByteArray,(⟨(St.nameOf t).toArray⟩:ByteArray)=nb:=⟨_,rfl⟩;rw[fl,hnb]at bk;rw[hnb]at tH;clear hsl hq hb hnb;go_enter Tryz.func172,Tryz.ntmps172;go_wp2_with fail;refine dR.out.mono ?_;rintro e w2 ⟨hu,he⟩;simp only at he;rw[fl]at he;subst he;have HU:=aa hu;clear hu dR;go_wp2_with fail;refine(bk.out _).mono ?_;rintro e w3 ⟨rfl,hu3⟩;have ba:=aa (HU.out.trans (ac.trans (uZ) hu3));clear hu3 HU;go_wp2_with fail;refine(tH.out _).mono ?_;rintro e w4 ⟨rfl,rfl⟩;go_wp2;go_ret2;exact pY br.out (Below.ah (Below.refl _ _) hBw ba.out)
 have NB:((s[0].toNat:Int)==60)=false:=by simp;omega
 by_cases pJ:s[0].toNat=38
 ·have hsl:=St.nz (r:=s.1.1.drop 1) pJ;rw[<-hcr]at hsl;have e38:((s[0].toNat:Int)==38)=true:=by simp;omega
  have CO:=aa (λW=>JE s W (by omega));clear hcr pJ gT;unfold E4 at CO;cases hq:St.qX s.1.1 with
  | none=>
   rw[hq]at hsl CO;have br:=aa hsl;clear hsl hq;go_enter Tryz.func172,Tryz.ntmps172;go_wp2_with fail;refine(CO.out _).mono ?_;rintro e w2 ⟨rfl,rfl⟩;go_wp2;go_ret2;exact pY br.out (Below.refl _ _)
  | some q=>
   obtain⟨k,t,n⟩:=q;obtain⟨rfl,_,_,ht1⟩:=St.xf hq
   obtain⟨c,rfl⟩:∃c,t=[c]:=by
    match t,ht1 with
    | [c],_=>exact⟨c,rfl⟩
   rw[hq]at hsl CO;have br:=aa hsl;have RP:Hid (∀W,Calls Tryz.prog 199 #[VE s] W λe w'=>e=VL (VI #[VD .u8 (c.toNat:Int),VD VJ n,VG true])/\W=w'):=CO;have u0:=aa (nP w B b its tx cuts c a H.out (by omega) (by omega) (by omega) hBw);clear hsl hq CO;go_enter Tryz.func172,Tryz.ntmps172;go_wp2_with fail;refine(RP.out _).mono ?_;rintro e w2 ⟨rfl,rfl⟩;go_wp2_with fail;refine u0.out.mono ?_;rintro e w2 ⟨rfl,eO,hbl⟩;have iq:=aa eO;have cX:=aa hbl;clear eO hbl;go_wp2_with fail;refine(jW _ _).mono ?_;rintro e w3 ⟨rfl,rfl⟩;cases hfu:St.aT its.length tx.length cuts.length true
   ·have ck:=aa hfu;clear hfu;go_wp2;go_ret2;exact Bp br.out hN'.out ck.out cX.out (iq.out ck.out) h3 rfl
   have ck:=aa hfu;clear hfu;go_wp2;go_ret2;exact Bq br.out hN'.out ck.out cX.out
 have e38:((s[0].toNat:Int)==38)=false:=by simp;omega
 by_cases da:s[0].toNat=123
 ·have hsl:=St.l8 (r:=s.1.1.drop 1) da;rw[<-hcr]at hsl;have r6:((s[0].toNat:Int)==123)=true:=by simp;omega
  have bK:=λW=>Tryz.strings_IndexByte s 125 W
  have ld:(125:Int).toNat.toUInt8=125:=rfl;rw[ld,hcr]at bK;rcases St.qd (r:=s.1.1.drop 1) da with⟨hi,hs⟩|⟨n,hi,hn,eW,hs⟩
  ·rw[hi]at bK;rw[<-hcr]at hs;rw[hs]at hsl;have br:=aa hsl;have dQ:=aa bK;clear hsl hcr bK hi hs ld gT pJ da;go_enter Tryz.func172,Tryz.ntmps172;go_wp2_with fail;refine(dQ.out _).mono ?_;rintro e w1 ⟨rfl,hw1⟩;obtain rfl:w=w1:=hw1.symm;clear hw1;go_wp2;go_ret2;exact pY br.out (Below.refl _ _)
  rw[hi]at bK;have hns:n+1<s.size:=by rw[<-hcr]at hn;simpa using hn
  obtain⟨x,hX⟩:∃x,s.extract 1 (n+1)=x:=⟨_,rfl⟩;have hxl:x.1.1=(s.1.1.drop 1).take n:=by rw[<-hX];simp
  have hxs:x.size<=s.size:=by rw[<-hX];simp;omega
  have Sy:x.1.1.length=n:=by rw[hxl];simp;omega
  have aZ:=λW=>jV x W (by omega)
  rw[<-hcr,<-hxl]at hs;have z1:(1:Int)<=(n:Int)+1:=by omega
  have z2:(n:Int)+1<=s.size:=by omega
  have z3:¬(n:Int)+1<0:=by omega
  rw[show(((n+1:Nat):Int))=(n:Int)+1 by omega]at bK;cases hnb:St.aS x.1.1
  ·rw[hnb]at hs aZ;simp only[Bool.false_eq_true,if_false]at hs;rw[hs]at hsl;have br:=aa hsl;have dQ:=aa bK;have bk:=aa aZ;clear hsl hcr bK hi hs ld hn eW aZ hnb hxl Sy gT pJ da;go_enter Tryz.func172,Tryz.ntmps172;go_wp2_with fail;refine(dQ.out _).mono ?_;rintro e w1 ⟨rfl,hw1⟩;obtain rfl:w=w1:=hw1.symm;clear hw1;go_wp2_with fail;refine(bk.out _).mono ?_;rintro e w' ⟨rfl,rfl⟩;go_wp2;go_ret2;exact pY br.out (Below.refl _ _)
  rw[hnb]at hs aZ;simp only[if_true]at hs;rw[hs]at hsl;simp only[Option.map_some]at hsl;have br:=aa hsl;have dQ:=aa bK;have bk:=aa aZ;have hw2:IntKind.i64.wrap ((n:Int)+1+1)=(n:Int)+1+1:=IntWalk.i64_in _ (by omega);have HIT:=aa (kB w.drew B b its tx cuts 5 0 x a (H.out.ah ((ac.refl w).drew)) (by omega) (by omega) (by omega) hBw);clear hsl hcr bK hi hs ld hn eW aZ hnb hxl gT pJ da;go_enter Tryz.func172,Tryz.ntmps172;go_wp2_with fail;refine(dQ.out _).mono ?_;rintro e w1 ⟨rfl,hw1⟩;obtain rfl:w=w1:=hw1.symm;clear hw1;go_wp2_with fail;refine(bk.out _).mono ?_;rintro e w' ⟨rfl,rfl⟩;go_wp2_with fail;refine bt (λ_ _=>True) (λL W=>if L 10=true then(St.aT its.length tx.length cuts.length false=false->b7 mo W B b (its++St.b8 tx++[(5,x.1.1,0)]) [] (cuts++[a]))/\Below B w.drew W else W=w.drew) ([λv _=>v=VD VJ ((n:Int)+1),λv _=>v=VD VJ ((n:Int)+1+1),λv _=>v=VH (some ⟨b,0,none⟩),λv _=>v=VH (some ⟨b,0,none⟩),λv _=>v=VH (some ⟨b,0,none⟩),λv _=>v=VE s,λv _=>v=VD VJ ((n:Int)+1),λv _=>v=VE x,λv _=>v=.agg #[VD VJ 5,VE x,VD VJ 0],λv _=>v=VD VJ (a:Int),λv _=>v=VG (!St.aT its.length tx.length cuts.length false),λv _=>v=VD VJ (il (!St.aT its.length tx.length cuts.length false)),λv _=>v=VD VJ ((n:Int)+1+1),λv _=>v=VD VJ (il (!St.aT its.length tx.length cuts.length false))]) (λ_=>trivial) (λ_ _ _ _ _=>trivial) (by kernel_rfl) (by rfl) (by kernel_rfl) (by kernel_rfl) ?_ ?_ ?_ ?_ ?_;rotate_left 1
  ·intro ρ;simp only[bP,Act.put,ap,ak,aq,Nat.zero_add,Nat.reduceAdd];exact rfl
  ·simp
  ·refine aj.cons (λρ L W hR hI hL hD hO hF K hK=>?_) ?_
   ·clear hF hD hO hR;simp only[Act.put,ap,ak,aq]at hK |-;go_simp;refine hK _ _ trivial (by simpa[ar]using hI) (λ_ _=>rfl)
   refine aj.cons (λρ L W hR hI hL hD hO hF K hK=>?_) ?_
   ·have f0:=ag hF (j:=0) (by decide);clear hF hD hO hR;simp only[Act.put,ap,ak,aq]at hK |-;have e0:ρ 0=VD VJ ((n:Int)+1):=f0;rw[e0]at hK |-;go_simp;refine hK _ _ trivial (by simpa[ar]using hI) (λ_ _=>rfl)
   refine aj.cons (λρ L W hR hI hL hD hO hF K hK=>?_) ?_
   ·clear hF hD hO hR;simp only[Act.put,ap,ak,aq]at hK |-;go_simp;refine hK _ _ trivial (by simpa[ar]using hI) (λ_ _=>rfl)
   refine aj.cons (λρ L W hR hI hL hD hO hF K hK=>?_) ?_
   ·have f2:=ag hF (j:=2) (by decide);clear hF hD hO hR;simp only[Act.put,ap,ak,aq]at hK |-;have e2:ρ 2=VH (some ⟨b,0,none⟩):=f2;rw[e2]at hK |-;go_simp;refine hK _ _ trivial (by simpa[ar]using hI) (λ_ _=>rfl)
   refine aj.cons (λρ L W hR hI hL hD hO hF K hK=>?_) ?_
   ·have f3:=ag hF (j:=3) (by decide);clear hF hD hO hR;simp only[Act.put,ap,ak,aq]at hK |-;have e3:ρ 3=VH (some ⟨b,0,none⟩):=f3;rw[e3]at hK |-;go_simp;refine hK _ _ trivial (by simpa[ar]using hI) (λ_ _=>rfl)
   refine aj.cons (λρ L W hR hI hL hD hO hF K hK=>?_) ?_
   ·clear hF hD hO hR;simp only[Act.put,ap,ak,aq]at hK |-;go_simp;refine hK _ _ trivial (by simpa[ar]using hI) (λ_ _=>rfl)
   refine aj.cons (λρ L W hR hI hL hD hO hF K hK=>?_) ?_
   ·clear hF hD hO hR;simp only[Act.put,ap,ak,aq]at hK |-;go_simp;refine hK _ _ trivial (by simpa[ar]using hI) (λ_ _=>rfl)
   refine aj.cons (λρ L W hR hI hL hD hO hF K hK=>?_) ?_
   ·have f5:=ag hF (j:=5) (by decide);have f6:=ag hF (j:=6) (by decide);clear hF hD hO hR;simp only[Act.put,ap,ak,aq]at hK |-;have e5:ρ 5=VE s:=f5;have e6:ρ 6=VD VJ ((n:Int)+1):=f6;rw[e5,e6]at hK |-;go_simp;refine hK _ _ trivial (by simpa[ar]using hI) (λ_ _=>rfl)
   refine aj.cons (λρ L W hR hI hL hD hO hF K hK=>?_) ?_
   ·have f7:=ag hF (j:=7) (by decide);clear hF hD hO hR;simp only[Act.put,ap,ak,aq]at hK |-;have e7:ρ 7=VE x:=f7;rw[e7]at hK |-;go_simp;refine hK _ _ trivial (by simpa[ar]using hI) (λ_ _=>rfl)
   refine aj.cons (λρ L W hR hI hL hD hO hF K hK=>?_) ?_
   ·clear hF hD hO hR;simp only[Act.put,ap,ak,aq]at hK |-;go_simp;refine hK _ _ trivial (by simpa[ar]using hI) (λ_ _=>rfl)
   refine aj.cons (λρ L W hR hI hL hD hO hF K hK=>?_) ?_
   ·have f4:=ag hF (j:=4) (by decide);have f8:=ag hF (j:=8) (by decide);have f9:=ag hF (j:=9) (by decide);rw[if_neg (by rw[hL];decide)]at hI;subst hI;clear hF hD hO hR;simp only[Act.put,ap,ak,aq]at hK |-;have e4:ρ 4=VH (some ⟨b,0,none⟩):=f4;have e8:ρ 8=.agg #[VD VJ 5,VE x,VD VJ 0]:=f8;have e9:ρ 9=VD VJ (a:Int):=f9;rw[e4,e8,e9]at hK |-;go_simp;go_at_call 164;refine HIT.out.mono ?_;rintro e W2 ⟨rfl,h1,h2⟩;exact hK _ _ trivial (by simp only[ar,if_true];exact⟨h1,h2⟩) (λ_ _=>rfl)
   refine aj.cons (λρ L W hR hI hL hD hO hF K hK=>?_) ?_
   ·have f10:=ag hF (j:=10) (by decide);clear hF hD hO hR;simp only[Act.put,ap,ak,aq]at hK |-;have e10:ρ 10=VG (!St.aT its.length tx.length cuts.length false):=f10;rw[e10]at hK |-;go_simp;go_at_call 200;refine(jW _ _).mono ?_;rintro e W2 ⟨rfl,rfl⟩;exact hK _ _ trivial (by simpa[ar]using hI) (λ_ _=>rfl)
   refine aj.cons (λρ L W hR hI hL hD hO hF K hK=>?_) ?_
   ·have f1:=ag hF (j:=1) (by decide);clear hF hD hO hR;simp only[Act.put,ap,ak,aq]at hK |-;have e1:ρ 1=VD VJ ((n:Int)+1+1):=f1;rw[e1]at hK |-;go_simp;refine hK _ _ trivial (by simpa[ar]using hI) (λ_ _=>rfl)
   refine aj.cons (λρ L W hR hI hL hD hO hF K hK=>?_) ?_
   ·have f11:=ag hF (j:=11) (by decide);clear hF hD hO hR;simp only[Act.put,ap,ak,aq]at hK |-;have e11:ρ 11=VD VJ (il (!St.aT its.length tx.length cuts.length false)):=f11;rw[e11]at hK |-;go_simp;refine hK _ _ trivial (by simpa[ar]using hI) (λ_ _=>rfl)
   exact aj.nil
  intro ρ L W hR hI hL hF;obtain⟨_,_,_,_,_,_,_,_,_,_,_,_,g12,g13,_⟩:=hF;have g12:ρ 12=VD VJ ((n:Int)+1+1):=g12;have g13:ρ 13=VD VJ (il (!St.aT its.length tx.length cuts.length false)):=g13;rw[g12,g13];clear g12 g13 hR;rw[if_pos (hL 10 (by decide))]at hI;obtain⟨eO,hbl⟩:=hI;have cX:=aa (Below.trans ((Below.refl B w).drew) hbl);have iq:=aa eO;clear eO hbl hL;cases hfu:St.aT its.length tx.length cuts.length false
  ·have ck:=aa hfu;clear hfu;go_wp2;go_ret2;exact JD br.out ck.out cX.out (iq.out ck.out) (by omega)
  have ck:=aa hfu;clear hfu;go_wp2;go_ret2;exact Hf br.out ck.out cX.out
 have r6:((s[0].toNat:Int)==123)=false:=by simp;omega
 have hsl:=St.kQ (r:=s.1.1.drop 1) gT pJ da;rw[<-hcr]at hsl;have br:=aa hsl;have u0:=aa (nP w.drew B b its tx cuts s[0] a (H.out.ah ((ac.refl w).drew)) (by omega) (by omega) (by omega) hBw);clear hsl hcr gT pJ da;go_enter Tryz.func172,Tryz.ntmps172;go_wp2_with fail;refine bt (λ_ _=>True) (λL W=>if L 6=true then(St.aT its.length tx.length cuts.length true=false->b7 mo W B b its (tx++[s[0]]) (cuts++[a]))/\Below B w.drew W else W=w.drew) ([λv _=>v=VH (some ⟨b,0,none⟩),λv _=>v=VH (some ⟨b,0,none⟩),λv _=>v=VH (some ⟨b,0,none⟩),λv _=>v=VE s,λv _=>v=VD .u8 (s[0].toNat:Int),λv _=>v=VD VJ (a:Int),λv _=>v=VG (!St.aT its.length tx.length cuts.length true),λv _=>v=VD VJ (il (!St.aT its.length tx.length cuts.length true)),λv _=>v=VD VJ 1,λv _=>v=VD VJ (il (!St.aT its.length tx.length cuts.length true))]) (λ_=>trivial) (λ_ _ _ _ _=>trivial) (by kernel_rfl) (by rfl) (by kernel_rfl) (by kernel_rfl) ?_ ?_ ?_ ?_ ?_;rotate_left 1
 ·intro ρ;simp only[bP,Act.put,ap,ak,aq,Nat.zero_add,Nat.reduceAdd];exact rfl
 ·simp
 ·refine aj.cons (λρ L W hR hI hL hD hO hF K hK=>?_) ?_
  ·clear hF hD hO hR;simp only[Act.put,ap,ak,aq]at hK |-;go_simp;refine hK _ _ trivial (by simpa[ar]using hI) (λ_ _=>rfl)
  refine aj.cons (λρ L W hR hI hL hD hO hF K hK=>?_) ?_
  ·have f0:=ag hF (j:=0) (by decide);clear hF hD hO hR;simp only[Act.put,ap,ak,aq]at hK |-;have e0:ρ 0=VH (some ⟨b,0,none⟩):=f0;rw[e0]at hK |-;go_simp;refine hK _ _ trivial (by simpa[ar]using hI) (λ_ _=>rfl)
  refine aj.cons (λρ L W hR hI hL hD hO hF K hK=>?_) ?_
  ·have f1:=ag hF (j:=1) (by decide);clear hF hD hO hR;simp only[Act.put,ap,ak,aq]at hK |-;have e1:ρ 1=VH (some ⟨b,0,none⟩):=f1;rw[e1]at hK |-;go_simp;refine hK _ _ trivial (by simpa[ar]using hI) (λ_ _=>rfl)
  refine aj.cons (λρ L W hR hI hL hD hO hF K hK=>?_) ?_
  ·clear hF hD hO hR;simp only[Act.put,ap,ak,aq]at hK |-;go_simp;refine hK _ _ trivial (by simpa[ar]using hI) (λ_ _=>rfl)
  refine aj.cons (λρ L W hR hI hL hD hO hF K hK=>?_) ?_
  ·have f3:=ag hF (j:=3) (by decide);clear hF hD hO hR;simp only[Act.put,ap,ak,aq]at hK |-;have e3:ρ 3=VE s:=f3;rw[e3]at hK |-;go_simp;refine hK _ _ trivial (by simpa[ar]using hI) (λ_ _=>rfl)
  refine aj.cons (λρ L W hR hI hL hD hO hF K hK=>?_) ?_
  ·clear hF hD hO hR;simp only[Act.put,ap,ak,aq]at hK |-;go_simp;refine hK _ _ trivial (by simpa[ar]using hI) (λ_ _=>rfl)
  refine aj.cons (λρ L W hR hI hL hD hO hF K hK=>?_) ?_
  ·have f2:=ag hF (j:=2) (by decide);have f4:=ag hF (j:=4) (by decide);have f5:=ag hF (j:=5) (by decide);rw[if_neg (by rw[hL];decide)]at hI;subst hI;clear hF hD hO hR;simp only[Act.put,ap,ak,aq]at hK |-;have e2:ρ 2=VH (some ⟨b,0,none⟩):=f2;have e4:ρ 4=VD .u8 (s[0].toNat:Int):=f4;have e5:ρ 5=VD VJ (a:Int):=f5;rw[e2,e4,e5]at hK |-;go_simp;go_at_call 162;refine u0.out.mono ?_;rintro e W2 ⟨rfl,h1,h2⟩;exact hK _ _ trivial (by simp only[ar,if_true];exact⟨h1,h2⟩) (λ_ _=>rfl)
  refine aj.cons (λρ L W hR hI hL hD hO hF K hK=>?_) ?_
  ·have f6:=ag hF (j:=6) (by decide);clear hF hD hO hR;simp only[Act.put,ap,ak,aq]at hK |-;have e6:ρ 6=VG (!St.aT its.length tx.length cuts.length true):=f6;rw[e6]at hK |-;go_simp;go_at_call 200;refine(jW _ _).mono ?_;rintro e W2 ⟨rfl,rfl⟩;exact hK _ _ trivial (by simpa[ar]using hI) (λ_ _=>rfl)
  refine aj.cons (λρ L W hR hI hL hD hO hF K hK=>?_) ?_
  ·clear hF hD hO hR;simp only[Act.put,ap,ak,aq]at hK |-;go_simp;refine hK _ _ trivial (by simpa[ar]using hI) (λ_ _=>rfl)
  refine aj.cons (λρ L W hR hI hL hD hO hF K hK=>?_) ?_
  ·have f7:=ag hF (j:=7) (by decide);clear hF hD hO hR;simp only[Act.put,ap,ak,aq]at hK |-;have e7:ρ 7=VD VJ (il (!St.aT its.length tx.length cuts.length true)):=f7;rw[e7]at hK |-;go_simp;refine hK _ _ trivial (by simpa[ar]using hI) (λ_ _=>rfl)
  exact aj.nil
 intro ρ L W hR hI hL hF;obtain⟨_,_,_,_,_,_,_,_,g8,g9,_⟩:=hF;have g8:ρ 8=VD VJ 1:=g8;have g9:ρ 9=VD VJ (il (!St.aT its.length tx.length cuts.length true)):=g9;rw[g8,g9];clear g8 g9 hR;rw[if_pos (hL 6 (by decide))]at hI;obtain⟨eO,hbl⟩:=hI;have cX:=aa (Below.trans ((Below.refl B w).drew) hbl);have iq:=aa eO;clear eO hbl hL;cases hfu:St.aT its.length tx.length cuts.length true
 ·have ck:=aa hfu;clear hfu;go_wp2;go_ret2;exact Bp br.out hN'.out ck.out cX.out (iq.out ck.out) h3 rfl
 have ck:=aa hfu;clear hfu;go_wp2;go_ret2;exact Bq br.out hN'.out ck.out cX.out
end
section
def lv(au:ByteArray):St.gM:=St.dv St.cE au.size au.1.1 0 0 [] [] [] 0
def pH(au:ByteArray)(w:VO)(e:Ending)(w':VO):Prop:=
 ac w w'/\((∃mo its tx cuts,e=VL (VI #[VH (some ⟨w.1.size,0,none⟩),VD VJ 0,VD VJ 0])/\b7 mo w' w.1.size w.1.size its tx cuts/\its.length<=512/\cuts.length<=1024/\tx.length<=cuts.length/\lv au=(its++St.b8 tx,cuts++[au.size],0,0))\/
  ∃(a:Nat) (er:Int),er≠0/\e=VL (VI #[VH none,VD VJ a,VD VJ er])/\lv au=([],[],a,er))
def PC(w:VO)(au:ByteArray)(s6:Value)(wr:VO):Prop:=
 ∃(a:Nat) (mo:Mo) (its:List St.It) (tx:List UInt8) (cuts:List Nat) (fuel:Nat),s6=VD VJ a/\a<=au.size/\au.size-a<=fuel/\b7 mo wr w.1.size w.1.size its tx cuts/\St.fz its/\its.length<=512/\cuts.length<=1024/\tx.length<=cuts.length /\
  mo.op.length<=cuts.length/\mo.c<=cuts.length/\aP mo.op<=a/\lv au=St.dv St.cE fuel (au.1.1.drop a) a a (its++St.b8 tx) cuts mo.op mo.c/\ac w wr
theorem b7.fresh(w:VO):b7 ⟨VF none 0 0,[],0⟩ (w.alloc (VK #[VF none 0 0,VF none 0 0,VF none 0 0,VF none 0 0,VD VJ 0] 180)) w.1.size w.1.size [] [] []:=
 ⟨_,_,_,Nat.le_refl _,heap_alloc_new w _,World.ownsRow_nil _ _ _ _,World.ownsRow_nil _ _ _ _,World.ownsRow_nil _ _ _ _,World.ownsRow_nil _ _ _ _,.inl rfl⟩
theorem L8{op eG:List St.It}{c c':Nat}{k i:Int}{t:List UInt8}(h:St.stepT op c k t=some (i,eG,c')):eG.length<=op.length+1/\c'<=c+1/\aP eG<=aP op+t.length:=by
 unfold St.stepT at h
 split at h
 ·cases hg:op.getLast? with
  | none=>rw[hg]at h;cases h
  | some o=>
   rw[hg]at h;simp only at h
   split at h
   ·simp only[Option.some.injEq,Prod.mk.injEq]at h;obtain⟨_,rfl,rfl⟩:=h;refine⟨by simp;omega,by omega,?_⟩;have:=fG op (op.length-1)
    rw[<-List.dropLast_eq_take]at this;omega
   cases h
 split at h
 ·simp only[Option.some.injEq,Prod.mk.injEq]at h;obtain⟨_,rfl,rfl⟩:=h;exact⟨by simp,by omega,by rw[ci];simp⟩
 split at h
 ·simp only[Option.some.injEq,Prod.mk.injEq]at h;obtain⟨_,rfl,rfl⟩:=h;exact⟨by omega,by omega,by omega⟩
 simp only[Option.some.injEq,Prod.mk.injEq]at h;obtain⟨_,rfl,rfl⟩:=h;exact⟨by omega,by omega,by omega⟩
theorem jM(au:ByteArray)(w:VO)(hr:au.size<=4611686018427387904):Calls Tryz.prog 126 #[VE au] w (pH au w):=by
 have mT:=aa (b7.fresh w);go_enter Tryz.func126,Tryz.ntmps126;go_wp2;go_loopw [6] (λs6 wr=>PC w au s6 wr) (λs6 _=>au.size+1-(intOf s6).toNat)
 case atStart=>exact⟨0,_,[],[],[],au.size,rfl,by omega,by omega,mT.out,St.o5,by simp,by simp,by simp,by simp,by simp,by simp[aP],by simp[lv,St.b8],uZ⟩
 case round=>
  obtain⟨a,mo,its,tx,cuts,fuel,rfl,ha,hfu,hB,hN,h1,h2,h3,h4,h5,h6,hD,hu⟩:=hrel;clear mT
  by_cases hlt:a<au.size
  ·have hel:=kg mo wr w.1.size w.1.size its tx cuts au a hB hN h1 h2 h3 (by omega) (by omega) (by omega) hu.size hlt hr;have jk:=aa hel;have HD:=aa hD;have HU:=aa hu
   have h0:au.1.1.drop a≠[]:=by
    intro e;have:=congrArg List.length e
    simp at this;omega
   obtain⟨fuel,rfl⟩:∃m,fuel=m+1:=⟨fuel-1,by omega⟩;clear hel hB hN hD hu;go_wp2_with fail;refine jk.out.mono ?_;rintro e w2 ⟨hbl,hm⟩;have hu2:ac w w2:=ac.cm (Below.trans HU.out.below hbl);have aW:=aa hu2;clear hbl hu2;cases hs:St.cE (au.1.1.drop a)with
   | none=>
    rw[hs]at hm;obtain⟨m,rfl⟩:=hm;have bJ:=aa (HD.out.trans (St.mC fuel a a _ cuts h0 hs));clear hs h0;go_wp2;go_ret3;exact⟨aW.out,.inr ⟨a,2,by decide,rfl,bJ.out⟩⟩
   | some x=>
    obtain⟨k,t,n⟩:=x;rw[hs]at hm;simp only at hm;obtain⟨hk,fZ,eV,hn4⟩:=St.oq hs;have gV:k≠0:=by omega
    have mW:a+n<=au.size:=by simp at eV;omega
    have iX:(au.1.1.drop a).drop n=au.1.1.drop (a+n):=by rw[List.drop_drop]
    cases hst:St.stepT mo.op mo.c k t with
    | none=>
     rw[hst]at hm;obtain⟨m,rfl⟩:=hm;have bJ:=aa (HD.out.trans (St.qt fuel a a _ cuts h0 hs gV hst));clear hs h0 hst iX;go_wp2;go_ret3;exact⟨aW.out,.inr ⟨a,7,by decide,rfl,bJ.out⟩⟩
    | some y=>
     obtain⟨i,eG,c'⟩:=y;rw[hst]at hm;simp only at hm
     split at hm
     ·rename_i hf
      obtain⟨m,rfl⟩:=hm;have bJ:=aa (HD.out.trans (St.mB fuel a a _ cuts h0 hs gV hst hf));clear hs h0 hf hst iX;go_wp2;go_ret3;exact⟨aW.out,.inr ⟨a,3,by decide,rfl,bJ.out⟩⟩
     rename_i hf
     obtain⟨rfl,v',fy,ja,hB',hN',hadd,ht'⟩:=hm;have hd2:=HD.out.trans (St.mD fuel a a _ cuts h0 hs gV hst hf);obtain⟨o1,o2,o3⟩:=L8 hst;rw[<-hadd]at hd2 hf;rw[iX]at hd2;have C8:fy.length<=512:=by have:=(not_or.1 hf).1;simp at this;omega
     have QY:cuts.length+1<=1024:=by have:=(not_or.1 hf).2;omega
     have HE:=aa (And.intro hd2 (And.intro hB' hN'));clear hd2 hB' hN' hadd hf hs h0 iX jk HD HU hst;go_wp2;exact⟨⟨a+n,_,fy,ja,cuts++[a],fuel,congrArg (VD VJ) (by omega),mW,by omega,HE.out.2.1,HE.out.2.2,C8,by simp;omega,by simp;omega,by simp only[List.length_append,List.length_singleton];omega,by simp only[List.length_append,List.length_singleton];omega,by simp only;omega,HE.out.1,aW.out⟩,by simp[intOf];omega⟩
  have vy:a=au.size:=by omega
  subst vy;have hnil:au.1.1.drop au.size=[]:=List.drop_of_length_le (by simp);rw[hnil,St.nT]at hD;unfold St.la at hD;obtain⟨v0,v1,v2,hv⟩:=hB;obtain⟨v,op,c⟩:=mo;simp only at h4 h5 h6 hD;obtain⟨A3,c3,rfl,_,_⟩:=aC (show wr.ownsRow w.1.size 36 3 v op.length (av op)from hv.2.2.2.2.2.1);obtain⟨g3,_,_,_,hblt,_⟩:=hv.at;haveI:af w.1.size wr:=af.of hblt;have HB:=aa (show b7 ⟨VF A3 op.length c3,op,c⟩ wr w.1.size w.1.size its tx cuts from⟨_,_,_,hv⟩);have HU:=aa hu
  by_cases hop:op=[]
  ·rw[if_pos hop]at hD;have HD:=aa hD;subst hop;have g3':wr.cell? ⟨w.1.size,3,none⟩=some (VF A3 0 c3):=g3;clear hlt hv hN hD hu hnil g3;go_wp2;go_ret3;exact⟨HU.out,.inl ⟨_,its,tx,cuts,rfl,HB.out,h1,h2,h3,HD.out⟩⟩
  rw[if_neg hop]at hD;have HD:=aa hD;have hpos:(0:Int)<(op.length:Int):=by have:=List.length_pos_iff.2 hop;omega
  have g3':wr.cell? ⟨w.1.size,3,none⟩=some (VF A3 op.length c3):=g3;clear hlt hv hN hD hu hnil hop g3;go_wp2;go_ret3;exact⟨HU.out,.inr ⟨au.size,7,by decide,rfl,HD.out⟩⟩
def ju(R:St.gM)(w:VO)(e:Ending)(w':VO):Prop:=
 ∃(A:Option Addr) (c:Nat),e=VL (VI #[VF A R.1.length c,VD VJ (R.2.2.1:Int),VD VJ R.2.2.2])/\aE w' A R.1/\R.1.length<=c/\c<=9223372036854775807/\ac w w'
def eR(R:St.gM)(w:VO)(e:Ending)(w':VO):Prop:=
 ∃(A:Option Addr) (c:Nat),e=VL (VI #[VF A R.2.1.length c,VD VJ R.2.2.2])/\iz w' A R.2.1/\R.2.1.length<=c/\c<=9223372036854775807/\ac w w'
theorem pt(au:ByteArray)(w:VO)(hr:au.size<=4611686018427387904):Calls Tryz.prog 91 #[VE au] w (ju (lv au) w):=by
 have HR:=aa (jM au w hr);go_enter Tryz.func91,Tryz.ntmps91;go_wp2_with fail;refine HR.out.mono ?_;rintro e w2 ⟨hu,⟨mo,its,tx,cuts,rfl,hB,h1,h2,h3,hD⟩|⟨a,er,her,rfl,hD⟩⟩
 ·have HI:=aa (oX w2 w.1.size w.1.size its tx cuts hB (by omega) (by omega) hu.size);have HU:=aa hu;have HD:=aa hD;clear hu hB hD HR;go_wp2_with fail;refine HI.out.mono ?_;rintro e w3 ⟨A,c,rfl,hI,hc1,hc2,hbl⟩;have HE:=aa (And.intro hI (ac.cm (Below.trans HU.out.below hbl)));have n8:=aa hc1;clear hI hbl hc1;go_wp2;go_ret3;unfold ju;rw[HD.out];exact⟨A,c,by simp only[List.length_append];rfl,HE.out.1,n8.out,hc2,HE.out.2⟩
 have hb:(er==0)=false:=by simpa using her
 have HU:=aa hu;have HD:=aa hD;clear hu hD HR;go_wp2;go_ret3;unfold ju;rw[HD.out];exact⟨none,0,rfl,λh=>absurd h (by simp),by simp,by omega,HU.out⟩
theorem He(au:ByteArray)(w:VO)(hr:au.size<=4611686018427387904):Calls Tryz.prog 87 #[VE au] w (eR (lv au) w):=by
 have HR:=aa (jM au w hr);go_enter Tryz.func87,Tryz.ntmps87;go_wp2_with fail;refine HR.out.mono ?_;rintro e w2 ⟨hu,⟨mo,its,tx,cuts,rfl,hB,h1,h2,h3,hD⟩|⟨a,er,her,rfl,hD⟩⟩
 ·have HI:=aa (oL w2 w.1.size w.1.size its tx cuts au.size hB (by omega) (by simpa using hu.size));have HU:=aa hu;have HD:=aa hD;clear hu hB hD HR;go_wp2_with fail;refine HI.out.mono ?_;rintro e w3 ⟨A,c,rfl,hI,hc1,hc2,hbl⟩;have HE:=aa (And.intro hI (ac.cm (Below.trans HU.out.below hbl)));have n8:=aa hc1;clear hI hbl hc1;go_wp2;go_ret2;unfold eR;rw[HD.out];exact⟨A,c,by simp,HE.out.1,by simpa using n8.out,hc2,HE.out.2⟩
 have hb:(er==0)=false:=by simpa using her
 have HU:=aa hu;have HD:=aa hD;clear hu hD HR;go_wp2;go_ret2;unfold eR;rw[HD.out];exact⟨none,0,rfl,λh=>absurd h (by simp),by simp,by omega,HU.out⟩
def dE(l:List UInt8):Nat × Int:=((St.ks St.cE l 0 0 [] [] [] 0).2.2.1,(St.ks St.cE l 0 0 [] [] [] 0).2.2.2)
theorem Le(x:ByteArray):lv x=St.ks St.cE x.1.1 0 0 [] [] [] 0:=by unfold lv St.ks;rw[St.aD]
theorem kr(x:ByteArray):dE x.1.1=((lv x).2.2.1,(lv x).2.2.2):=by unfold dE;rw[Le]
theorem CV:∀(fuel:Nat) (l:List UInt8) (a d:Nat) (f:List St.It) (cuts:List Nat) (op:List St.It) (c:Nat),(St.dv St.cE fuel l a d f cuts op c).2.2.1<=a+l.length
 | 0,l,a,d,f,cuts,op,c=>by unfold St.dv St.la;split<;>simp
 | fuel+1,l,a,d,f,cuts,op,c=>by
  by_cases h0:l=[]
  ·subst h0;rw[St.nT];unfold St.la;split<;>simp
  cases hs:St.cE l with
  | none=>rw[St.mC fuel a d f cuts h0 hs];simp
  | some x=>
   obtain⟨k,t,n⟩:=x;obtain⟨hk,fZ,eV,_⟩:=St.oq hs;cases hst:St.stepT op c k t with
   | none=>rw[St.qt fuel a d f cuts h0 hs (by omega) hst];simp
   | some y=>
    obtain⟨i,eG,c'⟩:=y
    by_cases hf:512<(St.aV f (k,t,i)).length\/1024<=cuts.length
    ·rw[St.mB fuel a d f cuts h0 hs (by omega) hst hf];simp
    rw[St.mD fuel a d f cuts h0 hs (by omega) hst hf];have h:=CV fuel (l.drop n) (a+n) (a+n) (St.aV f (k,t,i)) (cuts++[d]) eG c';rw[List.length_drop]at h;omega
theorem vQ(x:ByteArray):(lv x).2.2.1<=x.size:=by
 have:=CV x.size x.1.1 0 0 [] [] [] 0
 rw[St.aD]at this;unfold lv;omega
end
section
def qe:String:=(Rows.documentLimitsRow.named).getD 1 "x"
def mA(w:VO):Prop:=Lib.TabIs Tryz.prog w qe .u64 Lib.pow10Tab
theorem mA.ah{w w':VO}(h:ac w w')(t:mA w):mA w':=by
 unfold mA Lib.TabIs World.var? at t |-;cases hg:Program.globalNamed Tryz.prog qe with
 | none=>rw[hg]at t;simp at t
 | some g=>
  rw[hg]at t;simp only[Option.bind_some]at t |-
  have hlt:g<w.1.size:=by
   rcases Nat.lt_or_ge g w.1.size with h|h
   ·exact h
   rw[Array.getElem?_eq_none h]at t;simp at t
  rw[h.below.block g hlt];exact t
theorem Ka{a b:VO}(h:ac a b)(os:Array Obj):ac a (Go.Sort.grow b os):=by
 refine ac.mk ⟨h.below.os,h.below.tape,h.below.output,?_,λk hk=>?_⟩
 ·have:=h.below.size;unfold Go.Sort.grow;simp;omega
 unfold Go.Sort.grow;have:=h.below.size
 rw[Array.getElem?_append_left (by omega)];exact h.below.block k hk
theorem uE(n:Nat)(w:VO)(h1:n<=4611686018427387904)(t:mA w) :
  Calls Tryz.prog 124 #[VD VJ n] w λe w'=>e=VL (VE ⟨(Lib.decDigits n).toArray⟩)/\ac w w':=by
 refine(Any.strconv_Itoa Tryz.Bm n (by omega) (by omega) w t).mono ?_;rintro e w' ⟨rfl,k,os,rfl⟩;refine⟨?_,Ka ((ac.refl w).drewN k) os⟩;unfold Lib.itoa;rw[if_neg (by omega)];simp
end
section
theorem jI(d:ByteArray)(w:VO):Calls Tryz.prog 75 #[VE d] w λe w'=>e=VL (VH (some ⟨w.1.size,0,none⟩))/\w'=w.alloc (VK #[VE d,VD VJ 0,VF none 0 0] 161):=by
 go_enter Tryz.func75,Tryz.ntmps75;go_wp2;go_ret;exact⟨rfl,rfl⟩
def ko(w:VO):Prop:=mA w/\∃m:Int,0<w.1.size/\w.cell? ⟨0,0,none⟩=some (VD VJ m)
theorem ko.ah{w w':VO}(h:ko w)(u:ac w w'):ko w':=by
 obtain⟨h1,m,h2,h3⟩:=h;exact⟨h1.ah u,m,Nat.lt_of_lt_of_le h2 u.size,(u.cell (p:=⟨0,0,none⟩) h2).trans h3⟩
def gY(d:ByteArray):List St.Pt × Nat × Int:=St.iY dE Lib.decDigits d.1.1
def aH(R:List St.Pt × Nat × Int)(w:VO)(e:Ending)(w':VO):Prop:=
 ∃(A:Option Addr) (c:Nat),e=VL (VI #[VF A R.1.length c,VD VJ (R.2.1:Int),VD VJ R.2.2])/\aY w' A R.1/\R.1.length<=c/\c<=9223372036854775807/\ac w w'
theorem aH.err{R:List St.Pt × Nat × Int}{w w':VO}{a:Nat}{er:Int}(h:R=([],a,er))(u:ac w w')(m:Int)(hm:m=a):aH R w (VL (VI #[VF none 0 0,VD VJ m,VD VJ er])) w':=by
 subst h hm;exact⟨none,0,rfl,λh=>absurd h (by simp),by simp,by omega,u⟩
def PD(w:VO)(d:ByteArray)(s3 s6:Value)(wr:VO):Prop:=
 ∃(a r fuel:Nat) (s:St.PS),s3=VD VJ a/\s6=VD VJ r/\a<=d.size/\r<=a/\d.size-a<fuel/\s.2<=a/\s.1.length<=2*a/\PV wr w.1.size w.1.size d s/\gY d=St.jU d.1.1 (St.eX dE Lib.decDigits d.1.1 fuel a r s)/\ac w wr
theorem fc(b:List UInt8):((⟨#[60,47]⟩:ByteArray)++⟨b.toArray⟩++⟨#[62]⟩).1.1=St.fx b:=by
 simp[St.fx]
theorem EU(d:ByteArray)(w:VO)(hL:ko w)(fe:d.size<=4611686018427387904):Calls Tryz.prog 84 #[VE d] w (aH (gY d) w):=by
 have hlen:=St.aD d
 by_cases hbig:65536<d.size
 ·have hR:gY d=([],0,3):=by unfold gY St.iY;rw[if_pos (by omega)]
  have HR:=aa hR;have hb:(65536:Int)<d.size:=by omega
  clear hR hlen hL;go_enter Tryz.func84,Tryz.ntmps84;go_wp2;go_ret3;exact aH.err HR.out (ac.refl _) _ rfl
 have hb:¬(65536:Int)<d.size:=by omega
 have hd:d.size<=65536:=by omega
 have kK:PV (w.alloc (VK #[VE d,VD VJ 0,VF none 0 0] 161)) w.1.size w.1.size d ([],0):=⟨Nat.le_refl _,VF none 0 0,heap_alloc_new w _,World.ownsRow_nil _ _ _ _⟩
 have sc:gY d=St.jU d.1.1 (St.eX dE Lib.decDigits d.1.1 (d.size+1) 0 0 ([],0)):=by
  unfold gY;rw[St.sP (by omega),hlen]
 have jj:=aa (And.intro kK (And.intro sc ((ac.refl w).alloc (VK #[VE d,VD VJ 0,VF none 0 0] 161))));have HLEN:=aa hlen;obtain⟨fl,m,hm0,AV⟩:=hL;have zQ:=aa fl;have Qk:=aa (show ∀W,ac w W->W.cell? ⟨0,0,none⟩=some (VD VJ m)from λW hW=>(hW.cell (p:=⟨0,0,none⟩) hm0).trans AV);clear kK sc hlen fl hm0 AV;go_enter Tryz.func84,Tryz.ntmps84;go_wp2_with (go_at_call 75;refine(jI d _).mono ?_;rintro e w' ⟨rfl,rfl⟩);go_loopw [3,6] (λs3 s6 wr=>PD w d s3 s6 wr) (λs3 _ _=>d.size+1-(intOf s3).toNat)
 case atStart=>exact⟨0,0,d.size+1,([],0),rfl,rfl,by omega,by omega,by omega,by simp,by simp,jj.out.1,jj.out.2.1,jj.out.2.2⟩
 case round=>
  obtain⟨a,r,fuel,s,rfl,rfl,ha,La,hfu,hs2,hs1,hP,hS,hu⟩:=hrel;have HP:=aa hP;have HS:=aa hS;have HU:=aa hu;have hsz:=hu.size;clear hP hS hu jj
  by_cases hlt:a<d.size
  ·obtain⟨fuel,rfl⟩:∃m,fuel=m+1:=⟨fuel-1,by omega⟩;have eA:=aa (show ¬d.1.1.length<=a by rw[HLEN.out];omega);have z:(a:Int)<d.size:=by omega
   have z2:(a:Int)<=d.size:=by omega
   obtain⟨x,hx⟩:∃x,d.extract a d.size=x:=⟨_,rfl⟩;have hxl:x.1.1=d.1.1.drop a:=by rw[<-hx,Lib.extract_data,List.take_of_length_le (by simp)]
   have hxs:x.size=d.size-a:=by rw[<-hx];simp
   have hout:=λW (hW:ac wr W)=>Cu x m W (Qk.out _ (HU.out.trans hW)) (by omega) (by omega)
   rw[hxl]at hout;cases ho:St.fo (d.1.1.drop a)with
   | none=>
    rw[ho]at hout;have HO:=aa hout;have HR:=aa (HS.out.trans (by rw[St.tj eA.out ho];rfl):gY d=([],a,2));clear hout ho hxl;go_wp2_with fail;refine(HO.out _ (ac.refl _)).mono ?_;rintro e w2 ⟨hu2,q,y,rfl⟩;have aW:=aa (HU.out.trans hu2);clear hu2 HO;go_wp2;go_ret3;exact aH.err HR.out aW.out _ rfl
   | some q=>
    obtain⟨n,b⟩:=q;rw[ho]at hout;obtain⟨fZ,eV,bR,hbb⟩:=St.By ho (by intro h0;have:=congrArg List.length h0;simp at this;omega);simp at eV;have vI:∀W,ac wr W->Calls Tryz.prog 122 #[VE x] W λe w'=>ac W w'/\e=VL (VI #[VD VJ n,VE ⟨b.toArray⟩,VG true]):=hout
    by_cases hb0:b=[]
    ·subst hb0;have HST:=aa (HS.out.trans (by rw[St.l9 eA.out ho]):gY d=St.jU d.1.1 (St.eX dE Lib.decDigits d.1.1 fuel (a+n) r s));have HO:=aa vI;clear hout vI ho hxl;go_wp2_with fail;refine(HO.out _ (ac.refl _)).mono ?_;rintro e w2 ⟨hu2,rfl⟩;have aW:=aa (HU.out.trans hu2);have gL:=aa (HP.out.ah hu2);clear hu2 HO;go_wp2;exact⟨⟨a+n,r,fuel,s,congrArg (VD VJ) (by omega),rfl,by omega,by omega,by omega,by omega,by omega,gL.out,HST.out,aW.out⟩,by simp[intOf];omega⟩
    have hbk:=hbb hb0;obtain⟨bb,wN⟩:∃bb:ByteArray,(⟨b.toArray⟩:ByteArray)=bb:=⟨_,rfl⟩;have hbl:bb.1.1=b:=by rw[<-wN]
    have hbs:bb.size=b.length:=by rw[<-wN];show b.toArray.size=_;simp
    have Uy:(bb.toList==([]:List UInt8))=false:=by rw[jo,hbl];exact decide_eq_false hb0
    rw[wN]at vI;have HO:=aa vI;obtain⟨x2,hx2⟩:∃x2,d.extract (a+n) d.size=x2:=⟨_,rfl⟩;have su:x2.1.1=d.1.1.drop (a+n):=by rw[<-hx2,Lib.extract_data,List.take_of_length_le (by simp)]
    have EF:x2.size=d.size-(a+n):=by rw[<-hx2];simp
    obtain⟨eb,eg⟩:∃eb:ByteArray,(⟨#[60,47]⟩:ByteArray)++bb++⟨#[62]⟩=eb:=⟨_,rfl⟩;have si:eb.1.1=St.fx b:=by rw[<-eg,<-wN];exact fc b
    have Sa:eb.size=b.length+3:=by have:=congrArg List.length si;rw[St.aD]at this;rw[this];simp[St.fx]
    have bK:=λW (hW:ac wr W)=>Tryz.strings_Index x2 eb m W (by omega) (Qk.out _ (HU.out.trans hW))
    rw[si,su]at bK;have y1:((a:Int)+n)<=d.size:=by omega
    have y2:(0:Int)<=(a:Int)+n:=by omega
    have hge:=Lib.index_ge (d.1.1.drop (a+n)) (St.fx b);have hno:=λhj he=>St.qJ (dE:=dE) (dig:=Lib.decDigits) (fuel:=fuel) (r:=r) (s:=s) eA.out ho hb0 hj he
    have EA:=λhj he=>St.oZ (dE:=dE) (dig:=Lib.decDigits) (fuel:=fuel) (r:=r) (s:=s) eA.out ho hb0 hj he
    have Eh:=λj hj he=>St.tn (dE:=dE) (dig:=Lib.decDigits) (fuel:=fuel) (r:=r) (s:=s) (j:=j) eA.out ho hb0 hj he
    have zr:=λj hj he=>St.qK (dE:=dE) (dig:=Lib.decDigits) (fuel:=fuel) (r:=r) (s:=s) (j:=j) eA.out ho hb0 hj he
    have hroom:=λj (hj:Lib.index (d.1.1.drop (a+n)) (St.fx b)=(j:Nat))=>St.index_room hj (by simp[St.fx])
    have y3:¬9223372036854775807<2+bb.size:=by omega
    have y4:¬9223372036854775807<2+bb.size+1:=by omega
    have y5:((a:Int)+n).toNat=a+n:=by omega
    generalize TQ:Lib.index (d.1.1.drop (a+n)) (St.fx b)=zi at bK hge hno EA Eh zr hroom;have dQ:=aa bK;clear bK hout vI ho hxl hbk hbb wN hbl si hb0 TQ
    by_cases hz:zi<0
    ·have hN:=hno hz;have sa:=EA hz;rw[<-su,kr]at hN sa;have eK:=λW=>pt x2 W (by omega)
     have hat:=vQ x2;generalize lv x2=R at eK hat hN sa;obtain⟨rf,rc,dS,re⟩:=R;simp only at hN sa hat;have iL:=aa eK;have HN:=aa hN;have gl:=aa sa;clear eK hN sa hno EA Eh zr hroom su;go_wp2_with fail;refine(HO.out _ (ac.refl _)).mono ?_;rintro e w2 ⟨hu2,rfl⟩;have aW:=aa hu2;clear hu2;go_wp2_with fail;refine(dQ.out _ aW.out).mono ?_;rintro e w3 ⟨rfl,rfl⟩;go_wp2_with fail;refine(iL.out _).mono ?_;rintro e w6 ⟨A6,c6,rfl,_,_,_,dz⟩;have dO:=aa ((HU.out.trans aW.out).trans dz);clear dz iL dQ HO aW
     by_cases hre:re=0
     ·subst hre;have HR:=aa (HS.out.trans (by rw[HN.out rfl,HLEN.out];rfl):gY d=([],d.size,2));clear HN gl HS;go_wp2;go_ret3;exact aH.err HR.out dO.out _ rfl
     have Db:(re==0)=false:=by simpa using hre
     have Je:(re != 0)=true:=by simpa using hre
     have HR:=aa (HS.out.trans (by rw[gl.out hre];rfl):gY d=([],a+n+dS,re));clear HN gl HS;go_wp2;go_ret3;exact aH.err HR.out dO.out _ (by omega)
    obtain⟨j,rfl⟩:∃j:Nat,zi=(j:Int):=⟨zi.toNat,by omega⟩;have Dc:=hroom j rfl;rw[List.length_drop,HLEN.out]at Dc;have hel:(St.fx b).length=b.length+3:=by simp[St.fx]
    rw[hel]at Dc;have hE:=Eh j rfl;have ru:=zr j rfl;obtain⟨x3,hx3⟩:∃x3,d.extract (a+n) (a+n+j)=x3:=⟨_,rfl⟩;have hc3:St.be d.1.1 (a+n) (a+n+j)=x3.1.1:=by rw[<-hx3,dU]
    have Sx:x3.size<=d.size:=by rw[<-hx3];simp;omega
    rw[hc3,kr]at hE ru;have eK:=λW=>pt x3 W (by omega)
    have hat:=vQ x3;generalize lv x3=R at eK hat hE ru;obtain⟨rf,rc,dS,re⟩:=R;simp only at hE ru hat;have iL:=aa eK;have HE:=aa hE;have jm:=aa ru;have y6:¬(j:Int)<0:=by omega
    have y7:((a:Int)+n+j).toNat=a+n+j:=by omega
    have y8:(a:Int)+n<=(a:Int)+n+j:=by omega
    have y9:(a:Int)+n+j<=d.size:=by omega
    clear eK hE ru hno EA Eh zr hroom su hel hc3;go_wp2_with fail;refine(HO.out _ (ac.refl _)).mono ?_;rintro e w2 ⟨hu2,rfl⟩;have aW:=aa hu2;clear hu2;go_wp2_with fail;refine(dQ.out _ aW.out).mono ?_;rintro e w3 ⟨rfl,rfl⟩;go_wp2_with fail;refine(iL.out _).mono ?_;rintro e w6 ⟨A6,c6,rfl,_,_,_,dz⟩;have dO:=aa (aW.out.trans dz);clear dz iL dQ HO aW
    by_cases hre:re=0
    ·subst hre;have HST:=aa (HS.out.trans (by rw[jm.out rfl]):gY d=St.jU d.1.1 (St.eX dE Lib.decDigits d.1.1 fuel (a+n+j+(b.length+3)) (r+1) (St.bQ d.1.1 s (a+n) (a+n+j) (Lib.decDigits (r+1)))));have HIT:=aa (λW (hW:ac w6 W)=>uE (r+1) W (by omega) (zQ.out.ah ((HU.out.trans dO.out).trans hW)));have hr1:((r+1:Nat):Int)=(r:Int)+1:=by omega
     rw[hr1]at HIT;clear HE jm HS;go_wp2_with fail;refine(HIT.out _ (ac.refl _)).mono ?_;rintro e w7 ⟨rfl,bC⟩;have xA:=aa ((HP.out.ah dO.out).ah bC);have iN:=aa ((HU.out.trans dO.out).trans bC);have hun:=λW (hp:PV W w.1.size w.1.size d s) (hw:w.1.size<=W.1.size)=>uU W w.1.size w.1.size d ⟨(Lib.decDigits (r+1)).toArray⟩ s (a+n) (a+n+j) hp (by omega) (by omega) (by omega) fe (by omega) hw
     have q1:((a+n:Nat):Int)=(a:Int)+n:=by omega
     have q2:((a+n+j:Nat):Int)=(a:Int)+n+j:=by omega
     rw[q1,q2]at hun;have zT:=aa hun;have Jk:=iN.out.size;clear bC hun HIT dO HU HP q1 q2;go_wp2_with fail;refine(zT.out _ xA.out Jk).mono ?_;rintro e w8 ⟨rfl,hp8,hbl8,_,_⟩;have SX:=aa hp8;have mS:=aa (ac.cm (Below.trans iN.out.below hbl8));clear hp8 hbl8 zT xA iN;go_wp2;exact⟨⟨a+n+j+(b.length+3),r+1,fuel,_,congrArg (VD VJ) (by omega),congrArg (VD VJ) (by omega),by omega,by omega,by omega,by first|(simp[St.bQ];done)|(simp[St.bQ];omega),by first|(simp[St.bQ];done)|(simp[St.bQ];omega),SX.out,HST.out,mS.out⟩,by simp[intOf];omega⟩
    have Db:(re==0)=false:=by simpa using hre
    have Je:(re != 0)=true:=by simpa using hre
    have HR:=aa (HS.out.trans (by rw[HE.out hre];rfl):gY d=([],a+n+dS,re));have iN:=aa (HU.out.trans dO.out);clear HE jm HS HU dO;go_wp2;go_ret3;exact aH.err HR.out iN.out _ (by omega)
  have GA:a=d.size:=by omega
  have HL:=aa (uG wr w.1.size w.1.size d s HP.out (by omega) (by omega) (by omega) hsz);have HR:=aa (HS.out.trans (show St.jU d.1.1 (St.eX dE Lib.decDigits d.1.1 fuel a r s)=(St.dt d.1.1 s,0,0)by rw[St.tm (by rw[HLEN.out];omega)];rfl));have z:¬(a:Int)<d.size:=by omega
  go_wp2_with fail;refine HL.out.mono ?_;rintro e w3 ⟨A,c,rfl,kL,hq1,hq2,hbl⟩;have HE:=aa (And.intro kL (ac.cm (Below.trans HU.out.below hbl)));have lY:=aa hq1;clear kL hbl hq1 HL;go_wp2;go_ret3;unfold aH;rw[HR.out];exact⟨A,c,by simp[St.dt],HE.out.1,by simpa[St.dt]using lY.out,hq2,HE.out.2⟩
end
end Go.Proofs.YthoemdibbldndaaGreatDoor.Mk
namespace Go.Proofs.YthoemdibbldndaaGreatDoor.St
def wA(dE:List UInt8->Nat × Int)(d:List UInt8)(s:PS):Prop:=s.1.length % 2=0/\(∀i (h:i<s.1.length),s.1[i].1=decide (i % 2=1)/\(s.1[i].2.1=[] ↔ s.1[i].1=false)/\(s.1[i].1=true->(dE s.1[i].2.2).2=0))/\s.1.flatMap (·.2.2)=d.take s.2/\s.2<=d.length
theorem Jy(dE:List UInt8->Nat × Int)(d:List UInt8):wA dE d ([],0):=⟨rfl,λi h=>by simp at h,by simp,by simp⟩
theorem xK(d:List UInt8)(a b:Nat)(h:a<=b):d.take a++be d a b=d.take b:=by
 unfold be
 conv=>rhs;rw[<-List.take_append_drop a (d.take b)]
 rw[List.take_take,Nat.min_eq_left h]
theorem G0{dE:List UInt8->Nat × Int}{d:List UInt8}{s:PS}{a b:Nat}{key:List UInt8}(h:wA dE d s)(h1:s.2<=a)(h2:a<=b)(h3:b<=d.length)(hk:key≠[])(he:(dE (be d a b)).2=0):wA dE d (bQ d s a b key):=by
 obtain⟨i1,i2,i3,i4⟩:=h;unfold bQ;refine⟨by simp;omega,λi hi=>?_,?_,h3⟩
 ·simp only[List.length_append,List.length_cons,List.length_nil]at hi
  by_cases hlt:i<s.1.length
  ·simp only[List.getElem_append_left hlt];exact i2 i hlt
  simp only[List.getElem_append_right (Nat.le_of_not_lt hlt)];rcases(show i-s.1.length=0\/i-s.1.length=1 by omega)with hq|hq
  ·simp only[hq,List.getElem_cons_zero];refine⟨by rw[decide_eq_false (by omega)],by simp,by simp⟩
  simp only[hq,List.getElem_cons_succ,List.getElem_cons_zero];refine⟨by rw[decide_eq_true (by omega)],by simp[hk],λ_=>he⟩
 simp only[List.flatMap_append,List.flatMap_cons,List.flatMap_nil,List.append_nil];rw[i3,<-List.append_assoc,xK d _ _ h1,xK d _ _ h2]
def zV(dE:List UInt8->Nat × Int)(d:List UInt8)(ps:List Pt):Prop:=ps.length % 2=1/\(∀i (h:i<ps.length),ps[i].1=decide (i % 2=1)/\(ps[i].2.1=[] ↔ ps[i].1=false)/\(ps[i].1=true->(dE ps[i].2.2).2=0))/\ps.flatMap (·.2.2)=d
theorem Jx{dE:List UInt8->Nat × Int}{d:List UInt8}{s:PS}(h:wA dE d s):zV dE d (dt d s):=by
 obtain⟨i1,i2,i3,i4⟩:=h;unfold dt;refine⟨by simp;omega,λi hi=>?_,?_⟩
 ·simp only[List.length_append,List.length_singleton]at hi
  by_cases hlt:i<s.1.length
  ·simp only[List.getElem_append_left hlt];exact i2 i hlt
  simp only[List.getElem_append_right (Nat.le_of_not_lt hlt)];have hq:i-s.1.length=0:=by omega
  simp only[hq,List.getElem_cons_zero];refine⟨by rw[decide_eq_false (by omega)],by simp,by simp⟩
 simp only[List.flatMap_append,List.flatMap_cons,List.flatMap_nil,List.append_nil];rw[i3];simp
end Go.Proofs.YthoemdibbldndaaGreatDoor.St
namespace Go.Proofs.YthoemdibbldndaaGreatDoor.St
theorem Cf{d:List UInt8}{a:Nat}(h:¬d.length<=a):d.drop a≠[]:=by
 intro e;have:=congrArg List.length e
 simp at this;omega
theorem Bj{dE:List UInt8->Nat × Int}{dig:Nat->List UInt8}(hd:∀n,dig n≠[]){d:List UInt8}:∀(fuel a r:Nat) (s s':PS),wA dE d s->s.2<=a->eX dE dig d fuel a r s=.ok s'->wA dE d s'
 | 0,a,r,s,s',hi,_,h=>by simp[eX]at h;subst h;exact hi
 | fuel+1,a,r,s,s',hi,ha,h=>by
  by_cases hl:d.length<=a
  ·rw[tm hl]at h;cases h;exact hi
  cases h1:fo (d.drop a)with
  | none=>rw[tj hl h1]at h;cases h
  | some x=>
   obtain⟨n,b⟩:=x;have hn:=By h1 (Cf hl);rw[List.length_drop]at hn
   by_cases hb:b=[]
   ·subst hb;rw[l9 hl h1]at h;exact Bj hd fuel _ _ s s' hi (by omega) h
   by_cases hj:Lib.index (d.drop (a+n)) (fx b)<0
   ·by_cases he:(dE (d.drop (a+n))).2=0
    ·rw[qJ hl h1 hb hj he]at h;cases h
    rw[oZ hl h1 hb hj he]at h;cases h
   obtain⟨j,oR⟩:∃j:Nat,Lib.index (d.drop (a+n)) (fx b)=(j:Int):=⟨_,(Int.toNat_of_nonneg (by omega)).symm⟩
   by_cases he:(dE (be d (a+n) (a+n+j))).2=0
   ·rw[qK hl h1 hb oR he]at h;have hr:=index_room oR (by simp[fx]);rw[List.length_drop]at hr;refine Bj hd fuel _ _ _ s' (G0 hi (by omega) (by omega) (by omega) (hd _) he) ?_ h
    show a+n+j<=_
    omega
   rw[tn hl h1 hb oR he]at h;cases h
theorem uI{dE:List UInt8->Nat × Int}{dig:Nat->List UInt8}{d:List UInt8}:∀(fuel a r:Nat) (s:PS) (x:Nat),eX dE dig d fuel a r s≠.error (x,0)
 | 0,a,r,s,x=>by simp[eX]
 | fuel+1,a,r,s,x=>by
  intro h
  by_cases hl:d.length<=a
  ·rw[tm hl]at h;cases h
  cases h1:fo (d.drop a)with
  | none=>rw[tj hl h1]at h;simp at h
  | some y=>
   obtain⟨n,b⟩:=y
   by_cases hb:b=[]
   ·subst hb;rw[l9 hl h1]at h;exact uI fuel _ _ s x h
   by_cases hj:Lib.index (d.drop (a+n)) (fx b)<0
   ·by_cases he:(dE (d.drop (a+n))).2=0
    ·rw[qJ hl h1 hb hj he]at h;simp at h
    rw[oZ hl h1 hb hj he]at h;simp only[Except.error.injEq,Prod.mk.injEq]at h;exact he h.2
   obtain⟨j,oR⟩:∃j:Nat,Lib.index (d.drop (a+n)) (fx b)=(j:Int):=⟨_,(Int.toNat_of_nonneg (by omega)).symm⟩
   by_cases he:(dE (be d (a+n) (a+n+j))).2=0
   ·rw[qK hl h1 hb oR he]at h;exact uI fuel _ _ _ x h
   rw[tn hl h1 hb oR he]at h;simp only[Except.error.injEq,Prod.mk.injEq]at h;exact he h.2
theorem B7{dE:List UInt8->Nat × Int}{dig:Nat->List UInt8}(hd:∀n,dig n≠[]){d:List UInt8}(h:(iY dE dig d).2.2=0):zV dE d (iY dE dig d).1:=by
 by_cases h0:65536<d.length
 ·unfold iY at h;rw[if_pos h0]at h;cases h
 rw[sP h0]at h |-;cases hr:eX dE dig d (d.length+1) 0 0 ([],0)with
 | error x=>
  obtain⟨a,er⟩:=x;rw[hr]at h;have:er=0:=h
  subst this;exact absurd hr (uI _ _ _ _ _)
 | ok s=>exact Jx (Bj hd _ _ _ _ _ (Jy _ _) (by simp) hr)
end Go.Proofs.YthoemdibbldndaaGreatDoor.St
namespace Go.Proofs.YthoemdibbldndaaGreatDoor.St
def Rj:List (List UInt8):=[[98,114],[105,109,103,32,97]]
def OW:List (List UInt8):=[[98],[105],[97,32,104,61,49]]
inductive fH (ns:Bool):List It->List It->Nat->Prop
 | nil:fH ns [] [] 0
 | text {f op:List It} {c:Nat} (t:List UInt8) (h:fH ns f op c):fH ns (aV f (1,t,0)) op c
 | slot {f op:List It} {c:Nat} (t:List UInt8) (ht:aS t=true) (h:fH ns f op c):fH ns (aV f (5,t,0)) op c
 | empty {f op:List It} {c:Nat} (t:List UInt8) (ht:t∈Rj) (h:fH ns f op c):fH ns (aV f (4,t,(c:Int)+1)) op (c+1)
 | opened {f op:List It} {c:Nat} (t:List UInt8) (ht:t∈OW) (h:fH ns f op c):fH ns (aV f (2,t,(c:Int)+1)) (op++[(2,t,(c:Int)+1)]) (c+1)
 | closed {f op:List It} {c:Nat} (k:Nat) (hk:k<op.length) (hl:ns=true->k+1=op.length) (h:fH ns f op c):fH ns (aV f (3,nameOf op[k].2.1,op[k].2.2)) (op.take k++op.drop (k+1)) c
 | stray {f op:List It} {c:Nat} (hn:ns=false) (h:fH ns f op c):fH ns (aV f (3,[98],(c:Int)+1)) op (c+1)
theorem fH.nm{ns:Bool}{f op:List It}{c:Nat}(h:fH ns f op c):Nm f:=by
 induction h with
 | nil=>exact sy
 | text t h ih=>exact gC ih _
 | slot t ht h ih=>exact gC ih _
 | empty t ht h ih=>exact gC ih _
 | opened t ht h ih=>exact gC ih _
 | closed k hk hl h ih=>exact gC ih _
 | stray hn h ih=>exact gC ih _
theorem fH.small{ns:Bool}{f op:List It}{c:Nat}(h:fH ns f op c):∀y∈op,y.2.1.length<=5/\y.1=2:=by
 induction h with
 | nil=>intro y hy;cases hy
 | text t h ih=>exact ih
 | slot t ht h ih=>exact ih
 | empty t ht h ih=>exact ih
 | opened t ht h ih=>
  intro y hy;rcases List.mem_append.1 hy with hy|hy
  ·exact ih y hy
  simp at hy;subst hy;simp[OW]at ht;rcases ht with rfl|rfl|rfl<;>simp
 | closed k hk hl h ih=>
  intro y hy;rcases List.mem_append.1 hy with hy|hy
  ·exact ih y (List.mem_of_mem_take hy)
  exact ih y (List.mem_of_mem_drop hy)
 | stray hn h ih=>exact ih
theorem Bu(l:List UInt8):(nameOf l).length<=l.length:=(List.takeWhile_prefix _).length_le
end Go.Proofs.YthoemdibbldndaaGreatDoor.St
namespace Go.Proofs.YthoemdibbldndaaGreatDoor.St
theorem zW{f:List It}{x:It}(h:x.1≠1):aV f x=f++[x]:=by unfold aV;rw[if_neg h]
theorem sC(f:List It)(x:It):im (f++[x])=im f++(if x.1=1 then x.2.1.map (λc=>((1:Int),[c],(0:Int)))else[x]):=by simp[im]
theorem Hl(f:List It)(t:List UInt8):im (aV f (1,t,0))=im f++t.map (λc=>((1:Int),[c],(0:Int))):=by
 rcases dD f with rfl|⟨a,b,rfl⟩
 ·rw[gv];simp only[if_true]
  split
  ·rename_i h;subst h;simp[im]
  simp[im]
 rw[dJ];simp only[if_true]
 split
 ·rename_i h;subst h;simp
 split
 ·rename_i h1
  rw[sC,sC,if_pos h1];simp
 rw[sC (a++[b])];simp
end Go.Proofs.YthoemdibbldndaaGreatDoor.St
namespace Go.Proofs.YthoemdibbldndaaGreatDoor.St
section
variable {dE:List UInt8->Nat × Int} {dig:Nat->List UInt8} {d:List UInt8}
end
end Go.Proofs.YthoemdibbldndaaGreatDoor.St
