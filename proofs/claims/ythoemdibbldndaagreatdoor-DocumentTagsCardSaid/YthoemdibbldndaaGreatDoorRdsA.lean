/- The contract of markup's tag: what it gives is St.tagL. -/
import Derived.Test.YthoemdibbldndaaGreatDoorMkNm
import Derived.BigRegion
import Derived.Test.YthoemdibbldndaaGreatDoorFct
import Derived.Test.YthoemdibbldndaaGreatDoorGD
import Derived.Lib.IndexLaws
import Derived.Deep.RegionLaw
import Derived.Outline
import Derived.WalkSmall
import Derived.Test.YthoemdibbldndaaGreatDoorPart
set_option linter.all false
set_option maxHeartbeats 0
set_option maxRecDepth 20000
open Go.Value renaming int->UM,string->UN,slice->UO,bool->UP,pointer->UQ,tuple->UR
open Go.IntKind renaming i64->US
open Go.Obj renaming cells->UT
open Go.Ending renaming returned->UU
open Go renaming World->UY
namespace Go.Proofs.YthoemdibbldndaaGreatDoor
open Go.RowKit
namespace St
theorem ux:∀l:List UInt8,Lib.indexByte l 62=if(l.takeWhile (λc=>decide (c.toNat≠62))).length<l.length then((l.takeWhile (λc=>decide (c.toNat≠62))).length:Int)else -1
 | []=>rfl
 | c :: l=>by
  unfold Lib.indexByte
  by_cases h:c.toNat=62
  ·have h2:c=62:=by apply UInt8.toNat_inj.1;simpa using h
   subst h2;simp
  have h2:¬c=62:=λe=>h (by rw[e];rfl)
  have h3:(c==62)=false:=by simpa using h2
  rw[h3,ux l,List.takeWhile_cons_of_pos (by simpa using h),List.length_cons];simp only[List.length_cons,Bool.false_eq_true,if_false]
  by_cases h4:(l.takeWhile (λc=>decide (c.toNat≠62))).length<l.length
  ·rw[if_pos h4,if_neg (by simp<;>omega),if_pos (by omega)];try simp
  rw[if_neg h4,if_pos (by simp),if_neg (by omega)]
theorem zd{l:List UInt8}(h:¬(da l).length+1<l.length):fR l=none:=by unfold fR;rw[if_neg h]
theorem ze{l:List UInt8}(h:(da l).length+1<l.length):fR l=(eL (da l)).map λx=>(x.1,x.2,(da l).length+2):=by unfold fR;rw[if_pos h]
theorem LR(l:List UInt8):([47]:List UInt8).isPrefixOf l=decide (l.head?=some 47):=by
 cases l with
 | nil=>rfl
 | cons c r=>
  simp[List.isPrefixOf];rw[Bool.eq_iff_iff,beq_iff_eq,decide_eq_true_iff];exact eq_comm
end St
def vc(R:St.El)(w:UY)(e:Ending)(w':UY):Prop:=ac w w'/\match R with
 | some (k,t,n)=>e=UU (UR #[.agg #[UM US k,UN ⟨t.toArray⟩,UM US 0],UM US n,UP true])
 | none=>∃(k:Int) (x:ByteArray) (m:Int),e=UU (UR #[.agg #[UM US k,UN x,UM US 0],UM US m,UP false])
theorem pS{R:St.El}{w w':UY}{k:Int}{t:List UInt8}{n:Nat}{x:ByteArray}{m:Int}(hR:R=some (k,t,n))(hx:x.1.1=t)(hm:m=n)(hu:ac w w'):vc R w (UU (UR #[.agg #[UM US k,UN x,UM US 0],UM US m,UP true])) w':=by
 subst hm hx hR;exact⟨hu,by simp only[be]⟩
theorem mI{R:St.El}{w w':UY}{k:Int}{x:ByteArray}{m:Int}(hR:R=none)(hu:ac w w'):vc R w (UU (UR #[.agg #[UM US k,UN x,UM US 0],UM US m,UP false])) w':=by
 subst hR;exact⟨hu,_,_,_,rfl⟩
theorem BA(s:ByteArray)(w:UY)(hs:s.size<=4611686018427387904)(h0:0<s.size)(lg:s[0].toNat=60) :
  Calls Tryz.prog 166 #[UN s] w (vc (St.fR s.1.1) w):=by
 have hcr:s.1.1=s[0] :: s.1.1.drop 1:=St.fo s h0;have hlen:=St.aC s
 have eR:s.1.1.takeWhile (λc=>decide (c.toNat≠62))=s[0] :: St.da s.1.1:=by
  conv=>lhs;rw[hcr]
  rw[List.takeWhile_cons_of_pos (by simp[lg])];rfl
 have bM:=λW=>Tryz.strings_IndexByte s 62 W
 have AL:(62:Int).toNat.toUInt8=62:=rfl;rw[AL,St.ux,eR,List.length_cons]at bM;have hpre:St.da s.1.1=(s.1.1.drop 1).take (St.da s.1.1).length:=List.prefix_iff_eq_take.1 (List.takeWhile_prefix _)
 by_cases hlt:(St.da s.1.1).length+1<s.1.1.length
 rotate_left 1
 ·have hR:=aa (St.zd hlt);rw[if_neg hlt]at bM;have dS:=aa bM;clear bM hlt hpre eR hcr hlen AL;go_enter Tryz.func166,Tryz.ntmps166;go_wp2_with fail;refine(dS.out _).mono ?_;rintro e w' ⟨rfl,rfl⟩;go_wp2;refine bodyPost_ret (v:=UR #[.agg #[UM US 0,UN ⟨#[]⟩,UM US 0],UM US 0,UP false]) (by simp[results,Tryz.results166,go_sem]) rfl ?_;exact mI hR.out uZ
 have hT:=St.ze hlt;rw[if_pos hlt]at bM;rw[hlen]at hlt;obtain⟨m,hm⟩:∃m,(St.da s.1.1).length=m:=⟨_,rfl⟩;obtain⟨x,hX⟩:∃x,s.extract 1 (m+1)=x:=⟨_,rfl⟩;have hxl:x.1.1=St.da s.1.1:=by rw[hpre,hm,<-hX,Lib.extract_data];simp
 rw[hm]at hT bM hlt;rw[<-hxl]at hT;have hxs:x.size=m:=by rw[<-St.aC,hxl,hm]
 have Tk:x.size<=m:=by omega
 have Hy:m<=x.size:=by omega
 have Uv:IntKind.i64.wrap ((m:Int)+1+1)=(m:Int)+1+1:=IntWalk.i64_in _ (by omega);clear hpre eR hcr hlen AL hxl hm hxs;have z1:(1:Int)<=(m:Int)+1:=by omega
 have z2:(m:Int)+1<=(s.size:Int):=by omega
 have z3:¬(m:Int)+1<1:=by omega
 have o9:(((m+1:Nat):Int))=(m:Int)+1:=by omega
 rw[o9]at bM;have dS:=aa bM;have hp:=λW=>iX x ⟨#[47]⟩ W (by omega) (by show 1<=_;omega)
 have hpe:preB ⟨#[47]⟩ x=decide (x.1.1.head?=some 47):=St.LR _;rw[hpe]at hp;have yu:=λW=>EX x W (by omega)
 unfold qv at yu;clear bM hpe o9
 by_cases b1:x.1.1.head?=some 47
 ·have hx1:1<=x.size:=by
   rw[<-St.aC];cases hq:x.1.1 with
   | nil=>rw[hq]at b1;cases b1
   | cons c r=>simp
  obtain⟨y,hY⟩:∃y,x.extract 1 x.size=y:=⟨_,rfl⟩;have iD:y.1.1=x.1.1.drop 1:=by rw[<-hY,Lib.extract_data,List.take_of_length_le (by simp)]
  have hys:y.size<=x.size:=by rw[<-hY];simp
  have hI:St.eL x.1.1=if St.aB y.1.1 then some (3,y.1.1)else none:=by
   unfold St.eL;rw[if_pos b1,iD]
  rw[hI]at hT;have a8:=λW=>j7 y W (by omega)
  rw[decide_eq_true b1]at hp;have HP:=aa hp;have y1:(1:Int)<=(x.size:Int):=by omega
  have y2:1<=x.size:=hx1;clear hp yu hI b1 iD
  cases hb:St.aB y.1.1
  ·rw[hb]at hT a8;have HT:=aa hT;have bl:=aa a8;clear hT a8 hb;go_enter Tryz.func166,Tryz.ntmps166;go_wp2_with fail;refine(dS.out _).mono ?_;rintro e w' ⟨rfl,rfl⟩;go_wp2_with fail;refine(HP.out _).mono ?_;rintro e w' ⟨rfl,rfl⟩;go_wp2_with fail;go_region;go_wp2_with fail;refine bz (λ_ _=>True) (λL W=>ac w W/\W.1[w.1.size+1]?=some (UT #[UM US 3,UN y,UM US 0] 36 (0,0))/\W.1[w.1.size]?=some (UT #[if L 6=true then UM US 3 else UM US 0,if L 6=true then UN y else UN ⟨#[]⟩,UM US 0] 36 (0,0))) ([λv _=>v=.agg #[UM US 3,UN y,UM US 0],λv _=>v=UM US ((m:Int)+1),λv _=>v=UM US ((m:Int)+1+1),λv _=>v=UQ (some ⟨w.1.size+1,1,none⟩),λv _=>v=UN y,λv _=>v=UP false,λ_ _=>True,λv _=>v=UM US ((m:Int)+1+1),λv _=>v=UP false]) (λ_=>trivial) (λ_ _ _ _ _=>trivial) (by kernel_rfl) (by rfl) (by kernel_rfl) (by kernel_rfl) ?_ ?_ ?_ ?_ ?_;rotate_left 1
   ·intro ρ;simp only[ch,Act.put,aq,al,ar,Nat.zero_add,Nat.reduceAdd];exact rfl
   ·exact⟨uZ,aR _ _ _ (by simp),(dF _ _ _ (by simp)).trans (aR _ _ _ rfl)⟩
   ·refine aj.cons (λρ L W hR hI hL hD hO hF K hK=>?_) ?_
    ·clear hF hD hO hR;simp only[Act.put,aq,al,ar]at hK |-;have c0:W.cell? ⟨w.1.size+1,0,none⟩=_:=ak hI.2.1 0;have c1:W.cell? ⟨w.1.size+1,1,none⟩=_:=ak hI.2.1 1;have c2:W.cell? ⟨w.1.size+1,2,none⟩=_:=ak hI.2.1 2;go_simp;refine hK _ _ trivial (by simpa[au]using hI) (λ_ _=>rfl)
    refine aj.cons (λρ L W hR hI hL hD hO hF K hK=>?_) ?_
    ·clear hF hD hO hR;simp only[Act.put,aq,al,ar]at hK |-;go_simp;refine hK _ _ trivial (by simpa[au]using hI) (λ_ _=>rfl)
    refine aj.cons (λρ L W hR hI hL hD hO hF K hK=>?_) ?_
    ·have f1:=ag hF (j:=1) (by decide);clear hF hD hO hR;simp only[Act.put,aq,al,ar]at hK |-;have e1:ρ 1=UM US ((m:Int)+1):=f1;rw[e1]at hK |-;go_simp;refine hK _ _ trivial (by simpa[au]using hI) (λ_ _=>rfl)
    refine aj.cons (λρ L W hR hI hL hD hO hF K hK=>?_) ?_
    ·clear hF hD hO hR;simp only[Act.put,aq,al,ar]at hK |-;go_simp;refine hK _ _ trivial (by simpa[au]using hI) (λ_ _=>rfl)
    refine aj.cons (λρ L W hR hI hL hD hO hF K hK=>?_) ?_
    ·have f3:=ag hF (j:=3) (by decide);clear hF hD hO hR;simp only[Act.put,aq,al,ar]at hK |-;have e3:ρ 3=UQ (some ⟨w.1.size+1,1,none⟩):=f3;rw[e3]at hK |-;have c1:W.cell? ⟨w.1.size+1,1,none⟩=_:=ak hI.2.1 1;go_simp;refine hK _ _ trivial (by simpa[au]using hI) (λ_ _=>rfl)
    refine aj.cons (λρ L W hR hI hL hD hO hF K hK=>?_) ?_
    ·have f4:=ag hF (j:=4) (by decide);clear hF hD hO hR;simp only[Act.put,aq,al,ar]at hK |-;have e4:ρ 4=UN y:=f4;rw[e4]at hK |-;go_simp;go_at_call 149;refine(bl.out _).mono ?_;rintro e W2 ⟨rfl,rfl⟩;exact hK _ _ trivial (by simpa[au]using hI) (λ_ _=>rfl)
    refine aj.cons (λρ L W hR hI hL hD hO hF K hK=>?_) ?_
    ·have f0:=ag hF (j:=0) (by decide);clear hF hD hO hR;simp only[Act.put]at hK |-;have e0:ρ 0=.agg #[UM US 3,UN y,UM US 0]:=f0;rw[e0]at hK |-;have hlt:=ae hI.2.2;haveI:af w.1.size W:=af.of hlt;have hbb:W.1[w.1.size]?=some (UT #[if L 6=true then UM US 3 else UM US 0,if L 6=true then UN y else UN ⟨#[]⟩,UM US 0] 36 (0,0)):=hI.2.2;rw[hL]at hbb;have c0:W.cell? ⟨w.1.size,0,none⟩=_:=ak hbb 0;have c1:W.cell? ⟨w.1.size,1,none⟩=_:=ak hbb 1;have c2:W.cell? ⟨w.1.size,2,none⟩=_:=ak hbb 2;have p0:=bk hbb 0;have p1:=bk hbb 1;have p2:=bk hbb 2;go_simp;refine hK undef _ trivial ⟨((hI.1.setCell (p:=⟨w.1.size,0,none⟩) (Nat.le_refl _) _).setCell (p:=⟨w.1.size,1,none⟩) (Nat.le_refl _) _).setCell (p:=⟨w.1.size,2,none⟩) (Nat.le_refl _) _,?_,?_⟩ (λ_ _=>trivial)
     ·rw[heap_setCell_other _ _ _ _ (by simp),heap_setCell_other _ _ _ _ (by simp),heap_setCell_other _ _ _ _ (by simp)];exact hI.2.1
     simp only[au,if_true];exact heap_setCell_same _ _ 2 _ _ _ (heap_setCell_same _ _ 1 _ _ _ (heap_setCell_same _ _ 0 _ _ _ hbb))
    refine aj.cons (λρ L W hR hI hL hD hO hF K hK=>?_) ?_
    ·have f2:=ag hF (j:=2) (by decide);clear hF hD hO hR;simp only[Act.put,aq,al,ar]at hK |-;have e2:ρ 2=UM US ((m:Int)+1+1):=f2;rw[e2]at hK |-;go_simp;refine hK _ _ trivial (by simpa[au]using hI) (λ_ _=>rfl)
    refine aj.cons (λρ L W hR hI hL hD hO hF K hK=>?_) ?_
    ·have f5:=ag hF (j:=5) (by decide);clear hF hD hO hR;simp only[Act.put,aq,al,ar]at hK |-;have e5:ρ 5=UP false:=f5;rw[e5]at hK |-;go_simp;refine hK _ _ trivial (by simpa[au]using hI) (λ_ _=>rfl)
    exact aj.nil
   intro ρ L W hR hI hL hF;obtain⟨_,_,_,_,_,_,_,g7,g8,_⟩:=hF;have g7:ρ 7=UM US ((m:Int)+1+1):=g7;have g8:ρ 8=UP false:=g8;rw[g7,g8];clear g7 g8 hR;have hbb:=hI.2.2;rw[hL 6 (by decide)]at hbb;simp only[if_true]at hbb;have c0:W.cell? ⟨w.1.size,0,none⟩=_:=ak hbb 0;have c1:W.cell? ⟨w.1.size,1,none⟩=_:=ak hbb 1;have c2:W.cell? ⟨w.1.size,2,none⟩=_:=ak hbb 2;have HU:=aa hI.1;clear hI hL hbb;go_wp2;refine bodyPost_ret (v:=UR #[.agg #[UM US 3,UN y,UM US 0],UM US ((m:Int)+1+1),UP false]) (by simp[results,Tryz.results166,go_sem,c0,c1,c2]) rfl ?_;exact mI HT.out HU.out
  rw[hb]at hT a8;have HT:=aa hT;have bl:=aa a8;clear hT a8 hb;go_enter Tryz.func166,Tryz.ntmps166;go_wp2_with fail;refine(dS.out _).mono ?_;rintro e w' ⟨rfl,rfl⟩;go_wp2_with fail;refine(HP.out _).mono ?_;rintro e w' ⟨rfl,rfl⟩;go_wp2_with fail;go_region;go_wp2_with fail;refine bz (λ_ _=>True) (λL W=>ac w W/\W.1[w.1.size+1]?=some (UT #[UM US 3,UN y,UM US 0] 36 (0,0))/\W.1[w.1.size]?=some (UT #[if L 6=true then UM US 3 else UM US 0,if L 6=true then UN y else UN ⟨#[]⟩,UM US 0] 36 (0,0))) ([λv _=>v=.agg #[UM US 3,UN y,UM US 0],λv _=>v=UM US ((m:Int)+1),λv _=>v=UM US ((m:Int)+1+1),λv _=>v=UQ (some ⟨w.1.size+1,1,none⟩),λv _=>v=UN y,λv _=>v=UP true,λ_ _=>True,λv _=>v=UM US ((m:Int)+1+1),λv _=>v=UP true]) (λ_=>trivial) (λ_ _ _ _ _=>trivial) (by kernel_rfl) (by rfl) (by kernel_rfl) (by kernel_rfl) ?_ ?_ ?_ ?_ ?_;rotate_left 1
  ·intro ρ;simp only[ch,Act.put,aq,al,ar,Nat.zero_add,Nat.reduceAdd];exact rfl
  ·exact⟨uZ,aR _ _ _ (by simp),(dF _ _ _ (by simp)).trans (aR _ _ _ rfl)⟩
  ·refine aj.cons (λρ L W hR hI hL hD hO hF K hK=>?_) ?_
   ·clear hF hD hO hR;simp only[Act.put,aq,al,ar]at hK |-;have c0:W.cell? ⟨w.1.size+1,0,none⟩=_:=ak hI.2.1 0;have c1:W.cell? ⟨w.1.size+1,1,none⟩=_:=ak hI.2.1 1;have c2:W.cell? ⟨w.1.size+1,2,none⟩=_:=ak hI.2.1 2;go_simp;refine hK _ _ trivial (by simpa[au]using hI) (λ_ _=>rfl)
   refine aj.cons (λρ L W hR hI hL hD hO hF K hK=>?_) ?_
   ·clear hF hD hO hR;simp only[Act.put,aq,al,ar]at hK |-;go_simp;refine hK _ _ trivial (by simpa[au]using hI) (λ_ _=>rfl)
   refine aj.cons (λρ L W hR hI hL hD hO hF K hK=>?_) ?_
   ·have f1:=ag hF (j:=1) (by decide);clear hF hD hO hR;simp only[Act.put,aq,al,ar]at hK |-;have e1:ρ 1=UM US ((m:Int)+1):=f1;rw[e1]at hK |-;go_simp;refine hK _ _ trivial (by simpa[au]using hI) (λ_ _=>rfl)
   refine aj.cons (λρ L W hR hI hL hD hO hF K hK=>?_) ?_
   ·clear hF hD hO hR;simp only[Act.put,aq,al,ar]at hK |-;go_simp;refine hK _ _ trivial (by simpa[au]using hI) (λ_ _=>rfl)
   refine aj.cons (λρ L W hR hI hL hD hO hF K hK=>?_) ?_
   ·have f3:=ag hF (j:=3) (by decide);clear hF hD hO hR;simp only[Act.put,aq,al,ar]at hK |-;have e3:ρ 3=UQ (some ⟨w.1.size+1,1,none⟩):=f3;rw[e3]at hK |-;have c1:W.cell? ⟨w.1.size+1,1,none⟩=_:=ak hI.2.1 1;go_simp;refine hK _ _ trivial (by simpa[au]using hI) (λ_ _=>rfl)
   refine aj.cons (λρ L W hR hI hL hD hO hF K hK=>?_) ?_
   ·have f4:=ag hF (j:=4) (by decide);clear hF hD hO hR;simp only[Act.put,aq,al,ar]at hK |-;have e4:ρ 4=UN y:=f4;rw[e4]at hK |-;go_simp;go_at_call 149;refine(bl.out _).mono ?_;rintro e W2 ⟨rfl,rfl⟩;exact hK _ _ trivial (by simpa[au]using hI) (λ_ _=>rfl)
   refine aj.cons (λρ L W hR hI hL hD hO hF K hK=>?_) ?_
   ·have f0:=ag hF (j:=0) (by decide);clear hF hD hO hR;simp only[Act.put]at hK |-;have e0:ρ 0=.agg #[UM US 3,UN y,UM US 0]:=f0;rw[e0]at hK |-;have hlt:=ae hI.2.2;haveI:af w.1.size W:=af.of hlt;have hbb:W.1[w.1.size]?=some (UT #[if L 6=true then UM US 3 else UM US 0,if L 6=true then UN y else UN ⟨#[]⟩,UM US 0] 36 (0,0)):=hI.2.2;rw[hL]at hbb;have c0:W.cell? ⟨w.1.size,0,none⟩=_:=ak hbb 0;have c1:W.cell? ⟨w.1.size,1,none⟩=_:=ak hbb 1;have c2:W.cell? ⟨w.1.size,2,none⟩=_:=ak hbb 2;have p0:=bk hbb 0;have p1:=bk hbb 1;have p2:=bk hbb 2;go_simp;refine hK undef _ trivial ⟨((hI.1.setCell (p:=⟨w.1.size,0,none⟩) (Nat.le_refl _) _).setCell (p:=⟨w.1.size,1,none⟩) (Nat.le_refl _) _).setCell (p:=⟨w.1.size,2,none⟩) (Nat.le_refl _) _,?_,?_⟩ (λ_ _=>trivial)
    ·rw[heap_setCell_other _ _ _ _ (by simp),heap_setCell_other _ _ _ _ (by simp),heap_setCell_other _ _ _ _ (by simp)];exact hI.2.1
    simp only[au,if_true];exact heap_setCell_same _ _ 2 _ _ _ (heap_setCell_same _ _ 1 _ _ _ (heap_setCell_same _ _ 0 _ _ _ hbb))
   refine aj.cons (λρ L W hR hI hL hD hO hF K hK=>?_) ?_
   ·have f2:=ag hF (j:=2) (by decide);clear hF hD hO hR;simp only[Act.put,aq,al,ar]at hK |-;have e2:ρ 2=UM US ((m:Int)+1+1):=f2;rw[e2]at hK |-;go_simp;refine hK _ _ trivial (by simpa[au]using hI) (λ_ _=>rfl)
   refine aj.cons (λρ L W hR hI hL hD hO hF K hK=>?_) ?_
   ·have f5:=ag hF (j:=5) (by decide);clear hF hD hO hR;simp only[Act.put,aq,al,ar]at hK |-;have e5:ρ 5=UP true:=f5;rw[e5]at hK |-;go_simp;refine hK _ _ trivial (by simpa[au]using hI) (λ_ _=>rfl)
   exact aj.nil
  intro ρ L W hR hI hL hF;obtain⟨_,_,_,_,_,_,_,g7,g8,_⟩:=hF;have g7:ρ 7=UM US ((m:Int)+1+1):=g7;have g8:ρ 8=UP true:=g8;rw[g7,g8];clear g7 g8 hR;have hbb:=hI.2.2;rw[hL 6 (by decide)]at hbb;simp only[if_true]at hbb;have c0:W.cell? ⟨w.1.size,0,none⟩=_:=ak hbb 0;have c1:W.cell? ⟨w.1.size,1,none⟩=_:=ak hbb 1;have c2:W.cell? ⟨w.1.size,2,none⟩=_:=ak hbb 2;have HU:=aa hI.1;clear hI hL hbb;go_wp2;refine bodyPost_ret (v:=UR #[.agg #[UM US 3,UN y,UM US 0],UM US ((m:Int)+1+1),UP true]) (by simp[results,Tryz.results166,go_sem,c0,c1,c2]) rfl ?_;exact pS HT.out rfl (by omega) HU.out
 rw[decide_eq_false b1]at hp;have HP:=aa hp
 by_cases b2:x.1.1.getLast?=some 47
 ·have hx1:1<=x.size:=by
   rw[<-St.aC];cases hq:x.1.1 with
   | nil=>rw[hq]at b2;cases b2
   | cons c r=>simp
  obtain⟨y,hY⟩:∃y,x.extract 0 (x.size-1)=y:=⟨_,rfl⟩;have iD:y.1.1=x.1.1.dropLast:=by rw[<-hY,Lib.extract_data,List.dropLast_eq_take,St.aC];simp
  have hys:y.size<=x.size:=by rw[<-hY];simp
  have hI:St.eL x.1.1=if St.aI y.1.1 then some (4,y.1.1)else none:=by
   unfold St.eL;rw[if_neg b1,if_pos b2,iD]
  rw[hI]at hT;have a8:=λW=>oA y W (by omega)
  rw[decide_eq_true b2]at yu;have Gk:=aa yu;have y1:(x.size:Int)-1=((x.size-1:Nat):Int):=by omega
  have y2:(1:Int)<=(x.size:Int):=by omega
  have y3:(0:Int)<=(x.size:Int)-1:=by omega
  clear hp yu hI b1 b2 iD
  cases hb:St.aI y.1.1
  ·rw[hb]at hT a8;have HT:=aa hT;have bl:=aa a8;clear hT a8 hb;go_enter Tryz.func166,Tryz.ntmps166;go_wp2_with fail;refine(dS.out _).mono ?_;rintro e w' ⟨rfl,rfl⟩;go_wp2_with fail;refine(HP.out _).mono ?_;rintro e w' ⟨rfl,rfl⟩;go_wp2_with fail;refine(Gk.out _).mono ?_;rintro e w' ⟨rfl,rfl⟩;go_wp2_with fail;go_region;go_wp2_with fail;refine bz (λ_ _=>True) (λL W=>ac w W/\W.1[w.1.size+1]?=some (UT #[UM US 4,UN y,UM US 0] 36 (0,0))/\W.1[w.1.size]?=some (UT #[if L 6=true then UM US 4 else UM US 0,if L 6=true then UN y else UN ⟨#[]⟩,UM US 0] 36 (0,0))) ([λv _=>v=.agg #[UM US 4,UN y,UM US 0],λv _=>v=UM US ((m:Int)+1),λv _=>v=UM US ((m:Int)+1+1),λv _=>v=UQ (some ⟨w.1.size+1,1,none⟩),λv _=>v=UN y,λv _=>v=UP false,λ_ _=>True,λv _=>v=UM US ((m:Int)+1+1),λv _=>v=UP false]) (λ_=>trivial) (λ_ _ _ _ _=>trivial) (by kernel_rfl) (by rfl) (by kernel_rfl) (by kernel_rfl) ?_ ?_ ?_ ?_ ?_;rotate_left 1
   ·intro ρ;simp only[ch,Act.put,aq,al,ar,Nat.zero_add,Nat.reduceAdd];exact rfl
   ·exact⟨uZ,aR _ _ _ (by simp),(dF _ _ _ (by simp)).trans (aR _ _ _ rfl)⟩
   ·refine aj.cons (λρ L W hR hI hL hD hO hF K hK=>?_) ?_
    ·clear hF hD hO hR;simp only[Act.put,aq,al,ar]at hK |-;have c0:W.cell? ⟨w.1.size+1,0,none⟩=_:=ak hI.2.1 0;have c1:W.cell? ⟨w.1.size+1,1,none⟩=_:=ak hI.2.1 1;have c2:W.cell? ⟨w.1.size+1,2,none⟩=_:=ak hI.2.1 2;go_simp;refine hK _ _ trivial (by simpa[au]using hI) (λ_ _=>rfl)
    refine aj.cons (λρ L W hR hI hL hD hO hF K hK=>?_) ?_
    ·clear hF hD hO hR;simp only[Act.put,aq,al,ar]at hK |-;go_simp;refine hK _ _ trivial (by simpa[au]using hI) (λ_ _=>rfl)
    refine aj.cons (λρ L W hR hI hL hD hO hF K hK=>?_) ?_
    ·have f1:=ag hF (j:=1) (by decide);clear hF hD hO hR;simp only[Act.put,aq,al,ar]at hK |-;have e1:ρ 1=UM US ((m:Int)+1):=f1;rw[e1]at hK |-;go_simp;refine hK _ _ trivial (by simpa[au]using hI) (λ_ _=>rfl)
    refine aj.cons (λρ L W hR hI hL hD hO hF K hK=>?_) ?_
    ·clear hF hD hO hR;simp only[Act.put,aq,al,ar]at hK |-;go_simp;refine hK _ _ trivial (by simpa[au]using hI) (λ_ _=>rfl)
    refine aj.cons (λρ L W hR hI hL hD hO hF K hK=>?_) ?_
    ·have f3:=ag hF (j:=3) (by decide);clear hF hD hO hR;simp only[Act.put,aq,al,ar]at hK |-;have e3:ρ 3=UQ (some ⟨w.1.size+1,1,none⟩):=f3;rw[e3]at hK |-;have c1:W.cell? ⟨w.1.size+1,1,none⟩=_:=ak hI.2.1 1;go_simp;refine hK _ _ trivial (by simpa[au]using hI) (λ_ _=>rfl)
    refine aj.cons (λρ L W hR hI hL hD hO hF K hK=>?_) ?_
    ·have f4:=ag hF (j:=4) (by decide);clear hF hD hO hR;simp only[Act.put,aq,al,ar]at hK |-;have e4:ρ 4=UN y:=f4;rw[e4]at hK |-;go_simp;go_at_call 150;refine(bl.out _).mono ?_;rintro e W2 ⟨rfl,hu⟩;refine hK _ _ trivial ⟨hI.1.trans hu,(hu.below.block _ (ae hI.2.1)).trans hI.2.1,?_⟩ (λ_ _=>rfl);simp only[au,Nat.reduceEqDiff,if_false];exact(hu.below.block _ (ae hI.2.2)).trans hI.2.2
    refine aj.cons (λρ L W hR hI hL hD hO hF K hK=>?_) ?_
    ·have f0:=ag hF (j:=0) (by decide);clear hF hD hO hR;simp only[Act.put]at hK |-;have e0:ρ 0=.agg #[UM US 4,UN y,UM US 0]:=f0;rw[e0]at hK |-;have hlt:=ae hI.2.2;haveI:af w.1.size W:=af.of hlt;have hbb:W.1[w.1.size]?=some (UT #[if L 6=true then UM US 4 else UM US 0,if L 6=true then UN y else UN ⟨#[]⟩,UM US 0] 36 (0,0)):=hI.2.2;rw[hL]at hbb;have c0:W.cell? ⟨w.1.size,0,none⟩=_:=ak hbb 0;have c1:W.cell? ⟨w.1.size,1,none⟩=_:=ak hbb 1;have c2:W.cell? ⟨w.1.size,2,none⟩=_:=ak hbb 2;have p0:=bk hbb 0;have p1:=bk hbb 1;have p2:=bk hbb 2;go_simp;refine hK undef _ trivial ⟨((hI.1.setCell (p:=⟨w.1.size,0,none⟩) (Nat.le_refl _) _).setCell (p:=⟨w.1.size,1,none⟩) (Nat.le_refl _) _).setCell (p:=⟨w.1.size,2,none⟩) (Nat.le_refl _) _,?_,?_⟩ (λ_ _=>trivial)
     ·rw[heap_setCell_other _ _ _ _ (by simp),heap_setCell_other _ _ _ _ (by simp),heap_setCell_other _ _ _ _ (by simp)];exact hI.2.1
     simp only[au,if_true];exact heap_setCell_same _ _ 2 _ _ _ (heap_setCell_same _ _ 1 _ _ _ (heap_setCell_same _ _ 0 _ _ _ hbb))
    refine aj.cons (λρ L W hR hI hL hD hO hF K hK=>?_) ?_
    ·have f2:=ag hF (j:=2) (by decide);clear hF hD hO hR;simp only[Act.put,aq,al,ar]at hK |-;have e2:ρ 2=UM US ((m:Int)+1+1):=f2;rw[e2]at hK |-;go_simp;refine hK _ _ trivial (by simpa[au]using hI) (λ_ _=>rfl)
    refine aj.cons (λρ L W hR hI hL hD hO hF K hK=>?_) ?_
    ·have f5:=ag hF (j:=5) (by decide);clear hF hD hO hR;simp only[Act.put,aq,al,ar]at hK |-;have e5:ρ 5=UP false:=f5;rw[e5]at hK |-;go_simp;refine hK _ _ trivial (by simpa[au]using hI) (λ_ _=>rfl)
    exact aj.nil
   intro ρ L W hR hI hL hF;obtain⟨_,_,_,_,_,_,_,g7,g8,_⟩:=hF;have g7:ρ 7=UM US ((m:Int)+1+1):=g7;have g8:ρ 8=UP false:=g8;rw[g7,g8];clear g7 g8 hR;have hbb:=hI.2.2;rw[hL 6 (by decide)]at hbb;simp only[if_true]at hbb;have c0:W.cell? ⟨w.1.size,0,none⟩=_:=ak hbb 0;have c1:W.cell? ⟨w.1.size,1,none⟩=_:=ak hbb 1;have c2:W.cell? ⟨w.1.size,2,none⟩=_:=ak hbb 2;have HU:=aa hI.1;clear hI hL hbb;go_wp2;refine bodyPost_ret (v:=UR #[.agg #[UM US 4,UN y,UM US 0],UM US ((m:Int)+1+1),UP false]) (by simp[results,Tryz.results166,go_sem,c0,c1,c2]) rfl ?_;exact mI HT.out HU.out
  rw[hb]at hT a8;have HT:=aa hT;have bl:=aa a8;clear hT a8 hb;go_enter Tryz.func166,Tryz.ntmps166;go_wp2_with fail;refine(dS.out _).mono ?_;rintro e w' ⟨rfl,rfl⟩;go_wp2_with fail;refine(HP.out _).mono ?_;rintro e w' ⟨rfl,rfl⟩;go_wp2_with fail;refine(Gk.out _).mono ?_;rintro e w' ⟨rfl,rfl⟩;go_wp2_with fail;go_region;go_wp2_with fail;refine bz (λ_ _=>True) (λL W=>ac w W/\W.1[w.1.size+1]?=some (UT #[UM US 4,UN y,UM US 0] 36 (0,0))/\W.1[w.1.size]?=some (UT #[if L 6=true then UM US 4 else UM US 0,if L 6=true then UN y else UN ⟨#[]⟩,UM US 0] 36 (0,0))) ([λv _=>v=.agg #[UM US 4,UN y,UM US 0],λv _=>v=UM US ((m:Int)+1),λv _=>v=UM US ((m:Int)+1+1),λv _=>v=UQ (some ⟨w.1.size+1,1,none⟩),λv _=>v=UN y,λv _=>v=UP true,λ_ _=>True,λv _=>v=UM US ((m:Int)+1+1),λv _=>v=UP true]) (λ_=>trivial) (λ_ _ _ _ _=>trivial) (by kernel_rfl) (by rfl) (by kernel_rfl) (by kernel_rfl) ?_ ?_ ?_ ?_ ?_;rotate_left 1
  ·intro ρ;simp only[ch,Act.put,aq,al,ar,Nat.zero_add,Nat.reduceAdd];exact rfl
  ·exact⟨uZ,aR _ _ _ (by simp),(dF _ _ _ (by simp)).trans (aR _ _ _ rfl)⟩
  ·refine aj.cons (λρ L W hR hI hL hD hO hF K hK=>?_) ?_
   ·clear hF hD hO hR;simp only[Act.put,aq,al,ar]at hK |-;have c0:W.cell? ⟨w.1.size+1,0,none⟩=_:=ak hI.2.1 0;have c1:W.cell? ⟨w.1.size+1,1,none⟩=_:=ak hI.2.1 1;have c2:W.cell? ⟨w.1.size+1,2,none⟩=_:=ak hI.2.1 2;go_simp;refine hK _ _ trivial (by simpa[au]using hI) (λ_ _=>rfl)
   refine aj.cons (λρ L W hR hI hL hD hO hF K hK=>?_) ?_
   ·clear hF hD hO hR;simp only[Act.put,aq,al,ar]at hK |-;go_simp;refine hK _ _ trivial (by simpa[au]using hI) (λ_ _=>rfl)
   refine aj.cons (λρ L W hR hI hL hD hO hF K hK=>?_) ?_
   ·have f1:=ag hF (j:=1) (by decide);clear hF hD hO hR;simp only[Act.put,aq,al,ar]at hK |-;have e1:ρ 1=UM US ((m:Int)+1):=f1;rw[e1]at hK |-;go_simp;refine hK _ _ trivial (by simpa[au]using hI) (λ_ _=>rfl)
   refine aj.cons (λρ L W hR hI hL hD hO hF K hK=>?_) ?_
   ·clear hF hD hO hR;simp only[Act.put,aq,al,ar]at hK |-;go_simp;refine hK _ _ trivial (by simpa[au]using hI) (λ_ _=>rfl)
   refine aj.cons (λρ L W hR hI hL hD hO hF K hK=>?_) ?_
   ·have f3:=ag hF (j:=3) (by decide);clear hF hD hO hR;simp only[Act.put,aq,al,ar]at hK |-;have e3:ρ 3=UQ (some ⟨w.1.size+1,1,none⟩):=f3;rw[e3]at hK |-;have c1:W.cell? ⟨w.1.size+1,1,none⟩=_:=ak hI.2.1 1;go_simp;refine hK _ _ trivial (by simpa[au]using hI) (λ_ _=>rfl)
   refine aj.cons (λρ L W hR hI hL hD hO hF K hK=>?_) ?_
   ·have f4:=ag hF (j:=4) (by decide);clear hF hD hO hR;simp only[Act.put,aq,al,ar]at hK |-;have e4:ρ 4=UN y:=f4;rw[e4]at hK |-;go_simp;go_at_call 150;refine(bl.out _).mono ?_;rintro e W2 ⟨rfl,hu⟩;refine hK _ _ trivial ⟨hI.1.trans hu,(hu.below.block _ (ae hI.2.1)).trans hI.2.1,?_⟩ (λ_ _=>rfl);simp only[au,Nat.reduceEqDiff,if_false];exact(hu.below.block _ (ae hI.2.2)).trans hI.2.2
   refine aj.cons (λρ L W hR hI hL hD hO hF K hK=>?_) ?_
   ·have f0:=ag hF (j:=0) (by decide);clear hF hD hO hR;simp only[Act.put]at hK |-;have e0:ρ 0=.agg #[UM US 4,UN y,UM US 0]:=f0;rw[e0]at hK |-;have hlt:=ae hI.2.2;haveI:af w.1.size W:=af.of hlt;have hbb:W.1[w.1.size]?=some (UT #[if L 6=true then UM US 4 else UM US 0,if L 6=true then UN y else UN ⟨#[]⟩,UM US 0] 36 (0,0)):=hI.2.2;rw[hL]at hbb;have c0:W.cell? ⟨w.1.size,0,none⟩=_:=ak hbb 0;have c1:W.cell? ⟨w.1.size,1,none⟩=_:=ak hbb 1;have c2:W.cell? ⟨w.1.size,2,none⟩=_:=ak hbb 2;have p0:=bk hbb 0;have p1:=bk hbb 1;have p2:=bk hbb 2;go_simp;refine hK undef _ trivial ⟨((hI.1.setCell (p:=⟨w.1.size,0,none⟩) (Nat.le_refl _) _).setCell (p:=⟨w.1.size,1,none⟩) (Nat.le_refl _) _).setCell (p:=⟨w.1.size,2,none⟩) (Nat.le_refl _) _,?_,?_⟩ (λ_ _=>trivial)
    ·rw[heap_setCell_other _ _ _ _ (by simp),heap_setCell_other _ _ _ _ (by simp),heap_setCell_other _ _ _ _ (by simp)];exact hI.2.1
    simp only[au,if_true];exact heap_setCell_same _ _ 2 _ _ _ (heap_setCell_same _ _ 1 _ _ _ (heap_setCell_same _ _ 0 _ _ _ hbb))
   refine aj.cons (λρ L W hR hI hL hD hO hF K hK=>?_) ?_
   ·have f2:=ag hF (j:=2) (by decide);clear hF hD hO hR;simp only[Act.put,aq,al,ar]at hK |-;have e2:ρ 2=UM US ((m:Int)+1+1):=f2;rw[e2]at hK |-;go_simp;refine hK _ _ trivial (by simpa[au]using hI) (λ_ _=>rfl)
   refine aj.cons (λρ L W hR hI hL hD hO hF K hK=>?_) ?_
   ·have f5:=ag hF (j:=5) (by decide);clear hF hD hO hR;simp only[Act.put,aq,al,ar]at hK |-;have e5:ρ 5=UP true:=f5;rw[e5]at hK |-;go_simp;refine hK _ _ trivial (by simpa[au]using hI) (λ_ _=>rfl)
   exact aj.nil
  intro ρ L W hR hI hL hF;obtain⟨_,_,_,_,_,_,_,g7,g8,_⟩:=hF;have g7:ρ 7=UM US ((m:Int)+1+1):=g7;have g8:ρ 8=UP true:=g8;rw[g7,g8];clear g7 g8 hR;have hbb:=hI.2.2;rw[hL 6 (by decide)]at hbb;simp only[if_true]at hbb;have c0:W.cell? ⟨w.1.size,0,none⟩=_:=ak hbb 0;have c1:W.cell? ⟨w.1.size,1,none⟩=_:=ak hbb 1;have c2:W.cell? ⟨w.1.size,2,none⟩=_:=ak hbb 2;have HU:=aa hI.1;clear hI hL hbb;go_wp2;refine bodyPost_ret (v:=UR #[.agg #[UM US 4,UN y,UM US 0],UM US ((m:Int)+1+1),UP true]) (by simp[results,Tryz.results166,go_sem,c0,c1,c2]) rfl ?_;exact pS HT.out rfl (by omega) HU.out
 have hI:St.eL x.1.1=if St.aI x.1.1 then some (2,x.1.1)else none:=by
  unfold St.eL;rw[if_neg b1,if_neg b2]
 rw[hI]at hT;have a8:=λW=>oA x W (by omega)
 rw[decide_eq_false b2]at yu;have Gk:=aa yu;clear hp yu hI b1 b2
 cases hb:St.aI x.1.1
 ·rw[hb]at hT a8;have HT:=aa hT;have bl:=aa a8;clear hT a8 hb;go_enter Tryz.func166,Tryz.ntmps166;go_wp2_with fail;refine(dS.out _).mono ?_;rintro e w' ⟨rfl,rfl⟩;go_wp2_with fail;refine(HP.out _).mono ?_;rintro e w' ⟨rfl,rfl⟩;go_wp2_with fail;refine(Gk.out _).mono ?_;rintro e w' ⟨rfl,rfl⟩;go_wp2_with fail;refine bz (λ_ _=>True) (λL W=>ac w W/\W.1[w.1.size+1]?=some (UT #[UM US 2,UN x,UM US 0] 36 (0,0))/\W.1[w.1.size]?=some (UT #[if L 6=true then UM US 2 else UM US 0,if L 6=true then UN x else UN ⟨#[]⟩,UM US 0] 36 (0,0))) ([λv _=>v=.agg #[UM US 2,UN x,UM US 0],λv _=>v=UM US ((m:Int)+1),λv _=>v=UM US ((m:Int)+1+1),λv _=>v=UQ (some ⟨w.1.size+1,1,none⟩),λv _=>v=UN x,λv _=>v=UP false,λ_ _=>True,λv _=>v=UM US ((m:Int)+1+1),λv _=>v=UP false]) (λ_=>trivial) (λ_ _ _ _ _=>trivial) (by kernel_rfl) (by rfl) (by kernel_rfl) (by kernel_rfl) ?_ ?_ ?_ ?_ ?_;rotate_left 1
  ·intro ρ;simp only[ch,Act.put,aq,al,ar,Nat.zero_add,Nat.reduceAdd];exact rfl
  ·exact⟨uZ,aR _ _ _ (by simp),(dF _ _ _ (by simp)).trans (aR _ _ _ rfl)⟩
  ·refine aj.cons (λρ L W hR hI hL hD hO hF K hK=>?_) ?_
   ·clear hF hD hO hR;simp only[Act.put,aq,al,ar]at hK |-;have c0:W.cell? ⟨w.1.size+1,0,none⟩=_:=ak hI.2.1 0;have c1:W.cell? ⟨w.1.size+1,1,none⟩=_:=ak hI.2.1 1;have c2:W.cell? ⟨w.1.size+1,2,none⟩=_:=ak hI.2.1 2;go_simp;refine hK _ _ trivial (by simpa[au]using hI) (λ_ _=>rfl)
   refine aj.cons (λρ L W hR hI hL hD hO hF K hK=>?_) ?_
   ·clear hF hD hO hR;simp only[Act.put,aq,al,ar]at hK |-;go_simp;refine hK _ _ trivial (by simpa[au]using hI) (λ_ _=>rfl)
   refine aj.cons (λρ L W hR hI hL hD hO hF K hK=>?_) ?_
   ·have f1:=ag hF (j:=1) (by decide);clear hF hD hO hR;simp only[Act.put,aq,al,ar]at hK |-;have e1:ρ 1=UM US ((m:Int)+1):=f1;rw[e1]at hK |-;go_simp;refine hK _ _ trivial (by simpa[au]using hI) (λ_ _=>rfl)
   refine aj.cons (λρ L W hR hI hL hD hO hF K hK=>?_) ?_
   ·clear hF hD hO hR;simp only[Act.put,aq,al,ar]at hK |-;go_simp;refine hK _ _ trivial (by simpa[au]using hI) (λ_ _=>rfl)
   refine aj.cons (λρ L W hR hI hL hD hO hF K hK=>?_) ?_
   ·have f3:=ag hF (j:=3) (by decide);clear hF hD hO hR;simp only[Act.put,aq,al,ar]at hK |-;have e3:ρ 3=UQ (some ⟨w.1.size+1,1,none⟩):=f3;rw[e3]at hK |-;have c1:W.cell? ⟨w.1.size+1,1,none⟩=_:=ak hI.2.1 1;go_simp;refine hK _ _ trivial (by simpa[au]using hI) (λ_ _=>rfl)
   refine aj.cons (λρ L W hR hI hL hD hO hF K hK=>?_) ?_
   ·have f4:=ag hF (j:=4) (by decide);clear hF hD hO hR;simp only[Act.put,aq,al,ar]at hK |-;have e4:ρ 4=UN x:=f4;rw[e4]at hK |-;go_simp;go_at_call 150;refine(bl.out _).mono ?_;rintro e W2 ⟨rfl,hu⟩;refine hK _ _ trivial ⟨hI.1.trans hu,(hu.below.block _ (ae hI.2.1)).trans hI.2.1,?_⟩ (λ_ _=>rfl);simp only[au,Nat.reduceEqDiff,if_false];exact(hu.below.block _ (ae hI.2.2)).trans hI.2.2
   refine aj.cons (λρ L W hR hI hL hD hO hF K hK=>?_) ?_
   ·have f0:=ag hF (j:=0) (by decide);clear hF hD hO hR;simp only[Act.put]at hK |-;have e0:ρ 0=.agg #[UM US 2,UN x,UM US 0]:=f0;rw[e0]at hK |-;have hlt:=ae hI.2.2;haveI:af w.1.size W:=af.of hlt;have hbb:W.1[w.1.size]?=some (UT #[if L 6=true then UM US 2 else UM US 0,if L 6=true then UN x else UN ⟨#[]⟩,UM US 0] 36 (0,0)):=hI.2.2;rw[hL]at hbb;have c0:W.cell? ⟨w.1.size,0,none⟩=_:=ak hbb 0;have c1:W.cell? ⟨w.1.size,1,none⟩=_:=ak hbb 1;have c2:W.cell? ⟨w.1.size,2,none⟩=_:=ak hbb 2;have p0:=bk hbb 0;have p1:=bk hbb 1;have p2:=bk hbb 2;go_simp;refine hK undef _ trivial ⟨((hI.1.setCell (p:=⟨w.1.size,0,none⟩) (Nat.le_refl _) _).setCell (p:=⟨w.1.size,1,none⟩) (Nat.le_refl _) _).setCell (p:=⟨w.1.size,2,none⟩) (Nat.le_refl _) _,?_,?_⟩ (λ_ _=>trivial)
    ·rw[heap_setCell_other _ _ _ _ (by simp),heap_setCell_other _ _ _ _ (by simp),heap_setCell_other _ _ _ _ (by simp)];exact hI.2.1
    simp only[au,if_true];exact heap_setCell_same _ _ 2 _ _ _ (heap_setCell_same _ _ 1 _ _ _ (heap_setCell_same _ _ 0 _ _ _ hbb))
   refine aj.cons (λρ L W hR hI hL hD hO hF K hK=>?_) ?_
   ·have f2:=ag hF (j:=2) (by decide);clear hF hD hO hR;simp only[Act.put,aq,al,ar]at hK |-;have e2:ρ 2=UM US ((m:Int)+1+1):=f2;rw[e2]at hK |-;go_simp;refine hK _ _ trivial (by simpa[au]using hI) (λ_ _=>rfl)
   refine aj.cons (λρ L W hR hI hL hD hO hF K hK=>?_) ?_
   ·have f5:=ag hF (j:=5) (by decide);clear hF hD hO hR;simp only[Act.put,aq,al,ar]at hK |-;have e5:ρ 5=UP false:=f5;rw[e5]at hK |-;go_simp;refine hK _ _ trivial (by simpa[au]using hI) (λ_ _=>rfl)
   exact aj.nil
  intro ρ L W hR hI hL hF;obtain⟨_,_,_,_,_,_,_,g7,g8,_⟩:=hF;have g7:ρ 7=UM US ((m:Int)+1+1):=g7;have g8:ρ 8=UP false:=g8;rw[g7,g8];clear g7 g8 hR;have hbb:=hI.2.2;rw[hL 6 (by decide)]at hbb;simp only[if_true]at hbb;have c0:W.cell? ⟨w.1.size,0,none⟩=_:=ak hbb 0;have c1:W.cell? ⟨w.1.size,1,none⟩=_:=ak hbb 1;have c2:W.cell? ⟨w.1.size,2,none⟩=_:=ak hbb 2;have HU:=aa hI.1;clear hI hL hbb;go_wp2;refine bodyPost_ret (v:=UR #[.agg #[UM US 2,UN x,UM US 0],UM US ((m:Int)+1+1),UP false]) (by simp[results,Tryz.results166,go_sem,c0,c1,c2]) rfl ?_;exact mI HT.out HU.out
 rw[hb]at hT a8;have HT:=aa hT;have bl:=aa a8;clear hT a8 hb;go_enter Tryz.func166,Tryz.ntmps166;go_wp2_with fail;refine(dS.out _).mono ?_;rintro e w' ⟨rfl,rfl⟩;go_wp2_with fail;refine(HP.out _).mono ?_;rintro e w' ⟨rfl,rfl⟩;go_wp2_with fail;refine(Gk.out _).mono ?_;rintro e w' ⟨rfl,rfl⟩;go_wp2_with fail;refine bz (λ_ _=>True) (λL W=>ac w W/\W.1[w.1.size+1]?=some (UT #[UM US 2,UN x,UM US 0] 36 (0,0))/\W.1[w.1.size]?=some (UT #[if L 6=true then UM US 2 else UM US 0,if L 6=true then UN x else UN ⟨#[]⟩,UM US 0] 36 (0,0))) ([λv _=>v=.agg #[UM US 2,UN x,UM US 0],λv _=>v=UM US ((m:Int)+1),λv _=>v=UM US ((m:Int)+1+1),λv _=>v=UQ (some ⟨w.1.size+1,1,none⟩),λv _=>v=UN x,λv _=>v=UP true,λ_ _=>True,λv _=>v=UM US ((m:Int)+1+1),λv _=>v=UP true]) (λ_=>trivial) (λ_ _ _ _ _=>trivial) (by kernel_rfl) (by rfl) (by kernel_rfl) (by kernel_rfl) ?_ ?_ ?_ ?_ ?_;rotate_left 1
 ·intro ρ;simp only[ch,Act.put,aq,al,ar,Nat.zero_add,Nat.reduceAdd];exact rfl
 ·exact⟨uZ,aR _ _ _ (by simp),(dF _ _ _ (by simp)).trans (aR _ _ _ rfl)⟩
 ·refine aj.cons (λρ L W hR hI hL hD hO hF K hK=>?_) ?_
  ·clear hF hD hO hR;simp only[Act.put,aq,al,ar]at hK |-;have c0:W.cell? ⟨w.1.size+1,0,none⟩=_:=ak hI.2.1 0;have c1:W.cell? ⟨w.1.size+1,1,none⟩=_:=ak hI.2.1 1;have c2:W.cell? ⟨w.1.size+1,2,none⟩=_:=ak hI.2.1 2;go_simp;refine hK _ _ trivial (by simpa[au]using hI) (λ_ _=>rfl)
  refine aj.cons (λρ L W hR hI hL hD hO hF K hK=>?_) ?_
  ·clear hF hD hO hR;simp only[Act.put,aq,al,ar]at hK |-;go_simp;refine hK _ _ trivial (by simpa[au]using hI) (λ_ _=>rfl)
  refine aj.cons (λρ L W hR hI hL hD hO hF K hK=>?_) ?_
  ·have f1:=ag hF (j:=1) (by decide);clear hF hD hO hR;simp only[Act.put,aq,al,ar]at hK |-;have e1:ρ 1=UM US ((m:Int)+1):=f1;rw[e1]at hK |-;go_simp;refine hK _ _ trivial (by simpa[au]using hI) (λ_ _=>rfl)
  refine aj.cons (λρ L W hR hI hL hD hO hF K hK=>?_) ?_
  ·clear hF hD hO hR;simp only[Act.put,aq,al,ar]at hK |-;go_simp;refine hK _ _ trivial (by simpa[au]using hI) (λ_ _=>rfl)
  refine aj.cons (λρ L W hR hI hL hD hO hF K hK=>?_) ?_
  ·have f3:=ag hF (j:=3) (by decide);clear hF hD hO hR;simp only[Act.put,aq,al,ar]at hK |-;have e3:ρ 3=UQ (some ⟨w.1.size+1,1,none⟩):=f3;rw[e3]at hK |-;have c1:W.cell? ⟨w.1.size+1,1,none⟩=_:=ak hI.2.1 1;go_simp;refine hK _ _ trivial (by simpa[au]using hI) (λ_ _=>rfl)
  refine aj.cons (λρ L W hR hI hL hD hO hF K hK=>?_) ?_
  ·have f4:=ag hF (j:=4) (by decide);clear hF hD hO hR;simp only[Act.put,aq,al,ar]at hK |-;have e4:ρ 4=UN x:=f4;rw[e4]at hK |-;go_simp;go_at_call 150;refine(bl.out _).mono ?_;rintro e W2 ⟨rfl,hu⟩;refine hK _ _ trivial ⟨hI.1.trans hu,(hu.below.block _ (ae hI.2.1)).trans hI.2.1,?_⟩ (λ_ _=>rfl);simp only[au,Nat.reduceEqDiff,if_false];exact(hu.below.block _ (ae hI.2.2)).trans hI.2.2
  refine aj.cons (λρ L W hR hI hL hD hO hF K hK=>?_) ?_
  ·have f0:=ag hF (j:=0) (by decide);clear hF hD hO hR;simp only[Act.put]at hK |-;have e0:ρ 0=.agg #[UM US 2,UN x,UM US 0]:=f0;rw[e0]at hK |-;have hlt:=ae hI.2.2;haveI:af w.1.size W:=af.of hlt;have hbb:W.1[w.1.size]?=some (UT #[if L 6=true then UM US 2 else UM US 0,if L 6=true then UN x else UN ⟨#[]⟩,UM US 0] 36 (0,0)):=hI.2.2;rw[hL]at hbb;have c0:W.cell? ⟨w.1.size,0,none⟩=_:=ak hbb 0;have c1:W.cell? ⟨w.1.size,1,none⟩=_:=ak hbb 1;have c2:W.cell? ⟨w.1.size,2,none⟩=_:=ak hbb 2;have p0:=bk hbb 0;have p1:=bk hbb 1;have p2:=bk hbb 2;go_simp;refine hK undef _ trivial ⟨((hI.1.setCell (p:=⟨w.1.size,0,none⟩) (Nat.le_refl _) _).setCell (p:=⟨w.1.size,1,none⟩) (Nat.le_refl _) _).setCell (p:=⟨w.1.size,2,none⟩) (Nat.le_refl _) _,?_,?_⟩ (λ_ _=>trivial)
   ·rw[heap_setCell_other _ _ _ _ (by simp),heap_setCell_other _ _ _ _ (by simp),heap_setCell_other _ _ _ _ (by simp)];exact hI.2.1
   simp only[au,if_true];exact heap_setCell_same _ _ 2 _ _ _ (heap_setCell_same _ _ 1 _ _ _ (heap_setCell_same _ _ 0 _ _ _ hbb))
  refine aj.cons (λρ L W hR hI hL hD hO hF K hK=>?_) ?_
  ·have f2:=ag hF (j:=2) (by decide);clear hF hD hO hR;simp only[Act.put,aq,al,ar]at hK |-;have e2:ρ 2=UM US ((m:Int)+1+1):=f2;rw[e2]at hK |-;go_simp;refine hK _ _ trivial (by simpa[au]using hI) (λ_ _=>rfl)
  refine aj.cons (λρ L W hR hI hL hD hO hF K hK=>?_) ?_
  ·have f5:=ag hF (j:=5) (by decide);clear hF hD hO hR;simp only[Act.put,aq,al,ar]at hK |-;have e5:ρ 5=UP true:=f5;rw[e5]at hK |-;go_simp;refine hK _ _ trivial (by simpa[au]using hI) (λ_ _=>rfl)
  exact aj.nil
 intro ρ L W hR hI hL hF;obtain⟨_,_,_,_,_,_,_,g7,g8,_⟩:=hF;have g7:ρ 7=UM US ((m:Int)+1+1):=g7;have g8:ρ 8=UP true:=g8;rw[g7,g8];clear g7 g8 hR;have hbb:=hI.2.2;rw[hL 6 (by decide)]at hbb;simp only[if_true]at hbb;have c0:W.cell? ⟨w.1.size,0,none⟩=_:=ak hbb 0;have c1:W.cell? ⟨w.1.size,1,none⟩=_:=ak hbb 1;have c2:W.cell? ⟨w.1.size,2,none⟩=_:=ak hbb 2;have HU:=aa hI.1;clear hI hL hbb;go_wp2;refine bodyPost_ret (v:=UR #[.agg #[UM US 2,UN x,UM US 0],UM US ((m:Int)+1+1),UP true]) (by simp[results,Tryz.results166,go_sem,c0,c1,c2]) rfl ?_;exact pS HT.out rfl (by omega) HU.out
end Go.Proofs.YthoemdibbldndaaGreatDoor
namespace Go.Proofs.YthoemdibbldndaaGreatDoor.St
theorem uw:∀ {s sub:List UInt8} {i:Nat},Lib.index s sub=(i:Int)->Lib.occAt s sub i=true/\(∀j,j<i->Lib.occAt s sub j=false)/\i<=s.length
 | [],sub,i,h=>by
  unfold Lib.index at h
  split at h
  ·rename_i h0
   obtain rfl:i=0:=by omega
   refine⟨?_,λj hj=>absurd hj (Nat.not_lt_zero _),Nat.le_refl _⟩;cases sub with
   | nil=>rfl
   | cons a t=>cases h0
  omega
 | b :: l,sub,i,h=>by
  unfold Lib.index at h
  split at h
  ·rename_i h0
   obtain rfl:i=0:=by omega
   exact⟨by simpa[Lib.occAt]using h0,λj hj=>absurd hj (Nat.not_lt_zero _),Nat.zero_le _⟩
  rename_i h0
  split at h
  ·omega
  rename_i h1
  have hge:=Lib.index_ge l sub;have hne:Lib.index l sub≠-1:=by simpa using h1
  obtain⟨k,rfl⟩:∃k,i=k+1:=⟨i-1,by omega⟩;obtain⟨g1,g2,g3⟩:=uw (s:=l) (sub:=sub) (i:=k) (by omega);refine⟨by simpa[Lib.occAt]using g1,λj hj=>?_,by simpa using g3⟩;cases j with
  | zero=>exact Bool.eq_false_iff.2 (by simpa[Lib.occAt]using h0)
  | succ j=>simpa[Lib.occAt]using g2 j (by omega)
theorem index_room{s sub:List UInt8}{i:Nat}(h:Lib.index s sub=(i:Int))(h0:sub≠[]):i+sub.length<=s.length:=by
 have h1:=(uw h).1;unfold Lib.occAt at h1;have h2:=(List.isPrefixOf_iff_prefix.1 h1).length_le;rw[List.length_drop]at h2;have h3:0<sub.length:=List.length_pos_iff.2 h0;omega
def dv(l:List UInt8):Option (Nat × List UInt8):=
 if l.head?≠some 60 then some (1,[])else
 if([60,33,45,45]:List UInt8).isPrefixOf l then(if Lib.index (l.drop 4) [45,45,62]<0 then none else some ((Lib.index (l.drop 4) [45,45,62]).toNat+7,[]))else
 match fR l with
 | none=>none
 | some (k,t,n)=>if bu (nameOf t)then(if k=2 then some (n,nameOf t)else none)else some (n,[])
def df(b:List UInt8):List UInt8:=[60,47]++b++[62]
def ej(dE:List UInt8->Nat × Int)(dig:Nat->List UInt8)(d:List UInt8):Nat->Nat->Nat->PS->Except (Nat × Int) PS
 | 0,_,_,s=>.ok s
 | fuel+1,a,r,s=>
  if d.length<=a then .ok s else
  match dv (d.drop a)with
  | none=>.error (a,2)
  | some (n,b)=>
   if b=[]then ej dE dig d fuel (a+n) r s else
   let j:=Lib.index (d.drop (a+n)) (df b)
   if j<0 then(if(dE (d.drop (a+n))).2≠0 then .error (a+n+(dE (d.drop (a+n))).1,(dE (d.drop (a+n))).2)else .error (d.length,2))else
   if(dE (aY d (a+n) (a+n+j.toNat))).2≠0 then .error (a+n+(dE (aY d (a+n) (a+n+j.toNat))).1,(dE (aY d (a+n) (a+n+j.toNat))).2)else
   ej dE dig d fuel (a+n+j.toNat+(b.length+3)) (r+1) (bg d s (a+n) (a+n+j.toNat) (dig (r+1)))
def gU(dE:List UInt8->Nat × Int)(dig:Nat->List UInt8)(d:List UInt8):List Pt × Nat × Int:=
 if 65536<d.length then([],0,3)else
 match ej dE dig d (d.length+1) 0 0 ([],0)with
 | .error (a,e)=>([],a,e)
 | .ok s=>(cD d s,0,0)
def jx(d:List UInt8):Except (Nat × Int) PS->List Pt × Nat × Int
 | .error (a,e)=>([],a,e)
 | .ok s=>(cD d s,0,0)
theorem pw{dE:List UInt8->Nat × Int}{dig:Nat->List UInt8}{d:List UInt8}(h:¬65536<d.length):gU dE dig d=jx d (ej dE dig d (d.length+1) 0 0 ([],0)):=by
 rw[gU,if_neg h];cases ej dE dig d (d.length+1) 0 0 ([],0)<;>rfl
section
variable {dE:List UInt8->Nat × Int} {dig:Nat->List UInt8} {d:List UInt8} {fuel a r n:Nat} {b:List UInt8} {s:PS}
theorem iH(h:d.length<=a):ej dE dig d fuel a r s=.ok s:=by
 cases fuel with
 | zero=>rfl
 | succ f=>rw[ej,if_pos h]
theorem nT(h:¬d.length<=a)(h1:dv (d.drop a)=none):ej dE dig d (fuel+1) a r s=.error (a,2):=by rw[ej,if_neg h,h1]
theorem jc(h:¬d.length<=a)(h1:dv (d.drop a)=some (n,[])):ej dE dig d (fuel+1) a r s=ej dE dig d fuel (a+n) r s:=by rw[ej,if_neg h,h1];simp only[if_true]
theorem ml(h:¬d.length<=a)(h1:dv (d.drop a)=some (n,b))(hb:b≠[])(hj:Lib.index (d.drop (a+n)) (df b)<0)(he:(dE (d.drop (a+n))).2=0):ej dE dig d (fuel+1) a r s=.error (d.length,2):=by
 rw[ej,if_neg h,h1];simp only;rw[if_neg hb,if_pos hj,if_neg (by rw[he];decide)]
theorem lk(h:¬d.length<=a)(h1:dv (d.drop a)=some (n,b))(hb:b≠[])(hj:Lib.index (d.drop (a+n)) (df b)<0)(he:(dE (d.drop (a+n))).2≠0):ej dE dig d (fuel+1) a r s=.error (a+n+(dE (d.drop (a+n))).1,(dE (d.drop (a+n))).2):=by
 rw[ej,if_neg h,h1];simp only;rw[if_neg hb,if_pos hj,if_pos he]
theorem nU{j:Nat}(h:¬d.length<=a)(h1:dv (d.drop a)=some (n,b))(hb:b≠[])(hj:Lib.index (d.drop (a+n)) (df b)=(j:Int))(he:(dE (aY d (a+n) (a+n+j))).2≠0):ej dE dig d (fuel+1) a r s=.error (a+n+(dE (aY d (a+n) (a+n+j))).1,(dE (aY d (a+n) (a+n+j))).2):=by
 rw[ej,if_neg h,h1];simp only;rw[if_neg hb,hj,if_neg (by omega),Int.toNat_natCast,if_pos he]
theorem kU{j:Nat}(h:¬d.length<=a)(h1:dv (d.drop a)=some (n,b))(hb:b≠[])(hj:Lib.index (d.drop (a+n)) (df b)=(j:Int))(he:(dE (aY d (a+n) (a+n+j))).2=0) :
  ej dE dig d (fuel+1) a r s=ej dE dig d fuel (a+n+j+(b.length+3)) (r+1) (bg d s (a+n) (a+n+j) (dig (r+1))):=by
 rw[ej,if_neg h,h1];simp only;rw[if_neg hb,hj,if_neg (by omega),Int.toNat_natCast,if_neg (by rw[he];decide)]
end
theorem vl{l:List UInt8}(h:([60,33,45,45]:List UInt8).isPrefixOf l=true):fR l=none:=by
 obtain⟨r,rfl⟩:=List.isPrefixOf_iff_prefix.1 h
 have e:da ([60,33,45,45]++r)=33 :: 45 :: 45 :: r.takeWhile (λc=>decide (c.toNat≠62)):=by
  unfold da
  show((33:UInt8) :: 45 :: 45 :: r).takeWhile _=_
  rw[List.takeWhile_cons_of_pos (by decide),List.takeWhile_cons_of_pos (by decide),List.takeWhile_cons_of_pos (by decide)]
 have hnc:∀t:List UInt8,t.head?=some 33->aI t=false:=by
  intro t ht;rw[Bool.eq_false_iff];intro hc;have hn:=(lz hc).2.2.2;cases t with
  | nil=>cases ht
  | cons c r=>
   simp at ht;subst ht;have:nameOf (33 :: r)=33 :: nameOf r:=by unfold nameOf;rw[List.takeWhile_cons_of_pos (by decide)]
   rw[this,aB]at hn;simp[kR]at hn
 unfold fR;rw[e]
 split
 ·unfold eL;have h2:aI (List.dropLast (33 :: 45 :: 45 :: r.takeWhile (λc=>decide (c.toNat≠62))))=false:=hnc _ (by simp);have h1:aI (33 :: 45 :: 45 :: r.takeWhile (λc=>decide (c.toNat≠62)))=false:=hnc _ rfl;rw[if_neg (by simp),h2,h1]
  split<;>simp
 rfl
theorem qo{l:List UInt8}(h:l.head?≠some 60):dv l=some (1,[]):=by unfold dv;rw[if_pos h]
theorem mq{l:List UInt8}(h:l.head?=some 60)(h2:([60,33,45,45]:List UInt8).isPrefixOf l=false):dv l=match fR l with
 | none=>none
 | some (k,t,n)=>if bu (nameOf t)then(if k=2 then some (n,nameOf t)else none)else some (n,[]):=by
 unfold dv;rw[if_neg (by simp[h]),h2];rfl
theorem q8{l:List UInt8}(h2:([60,33,45,45]:List UInt8).isPrefixOf l=true):dv l=if Lib.index (l.drop 4) [45,45,62]<0 then none else some ((Lib.index (l.drop 4) [45,45,62]).toNat+7,[]):=by
 have h:l.head?=some 60:=by
  obtain⟨r,rfl⟩:=List.isPrefixOf_iff_prefix.1 h2;rfl
 unfold dv;rw[if_neg (by simp[h]),if_pos h2]
theorem sc{t:List UInt8}(h:bu t=true):t≠[]/\t.length<=5:=by
 unfold bu at h;rw[decide_eq_true_eq]at h;rcases h with rfl|rfl|rfl|rfl|rfl<;>simp
theorem ra{l:List UInt8}{n:Nat}{b:List UInt8}(h:dv l=some (n,b))(h0:l≠[]):1<=n/\n<=l.length/\b.length<=5/\(b≠[]->bu b=true):=by
 by_cases lg:l.head?=some 60
 ·cases hc:([60,33,45,45]:List UInt8).isPrefixOf l
  ·rw[mq lg hc]at h;cases hq:fR l with
   | none=>rw[hq]at h;cases h
   | some x=>
    obtain⟨k,t,m⟩:=x;have hl:=kh hq;rw[hq]at h;simp only at h
    split at h
    ·rename_i hb
     split at h
     ·simp only[Option.some.injEq,Prod.mk.injEq]at h;obtain⟨rfl,rfl⟩:=h;exact⟨by omega,hl.2.2.1,(sc hb).2,λ_=>hb⟩
     cases h
    simp only[Option.some.injEq,Prod.mk.injEq]at h;obtain⟨rfl,rfl⟩:=h;exact⟨by omega,hl.2.2.1,by simp,λe=>absurd rfl e⟩
  rw[q8 hc]at h
  split at h
  ·cases h
  rename_i hi
  simp only[Option.some.injEq,Prod.mk.injEq]at h;obtain⟨rfl,rfl⟩:=h;have hp:=(List.isPrefixOf_iff_prefix.1 hc).length_le
  have hb:(Lib.index (l.drop 4) [45,45,62]).toNat+3<=(l.drop 4).length:=by
   obtain⟨i,hi2⟩:∃i:Nat,Lib.index (l.drop 4) [45,45,62]=(i:Int):=⟨_,(Int.toNat_of_nonneg (by omega)).symm⟩;rw[hi2];exact index_room hi2 (by simp)
  rw[List.length_drop]at hb;simp at hp;exact⟨by omega,by omega,by simp,λe=>absurd rfl e⟩
 rw[qo lg]at h;simp only[Option.some.injEq,Prod.mk.injEq]at h;obtain⟨rfl,rfl⟩:=h;exact⟨by omega,List.length_pos_iff.2 h0,by simp,λe=>absurd rfl e⟩
end Go.Proofs.YthoemdibbldndaaGreatDoor.St
namespace Go.Proofs.YthoemdibbldndaaGreatDoor.Mk
open Go.RowKit
section
def Al(R:Option (Nat × List UInt8))(w:UY)(e:Ending)(w':UY):Prop:=ac w w'/\match R with
 | some (n,b)=>e=UU (UR #[UM US n,UN ⟨b.toArray⟩,UP true])
 | none=>∃(m:Int) (x:ByteArray),e=UU (UR #[UM US m,UN x,UP false])
theorem mE{R:Option (Nat × List UInt8)}{w w':UY}{n:Nat}{b:List UInt8}{x:ByteArray}{m:Int}(hR:R=some (n,b))(hx:x.1.1=b)(hm:m=n)(hu:ac w w'):Al R w (UU (UR #[UM US m,UN x,UP true])) w':=by
 subst hm hx hR;exact⟨hu,by simp only[be]⟩
theorem pP{R:Option (Nat × List UInt8)}{w w':UY}{x:ByteArray}{m:Int}(hR:R=none)(hu:ac w w'):Al R w (UU (UR #[UM US m,UN x,UP false])) w':=by
 subst hR;exact⟨hu,_,_,rfl⟩
theorem CI(s:ByteArray)(m:Int)(w:UY)(hm:w.cell? ⟨0,0,none⟩=some (UM US m))(hs:s.size<=65536)(h0:0<s.size) :
  Calls Tryz.prog 122 #[UN s] w (Al (St.dv s.1.1) w):=by
 have hcr:s.1.1=s[0] :: s.1.1.drop 1:=St.fo s h0;have hlen:=St.aC s
 by_cases gJ:s[0].toNat=60
 rotate_left 1
 ·have f60:((s[0].toNat:Int) != 60)=true:=by simp;omega
  have HR:=aa (St.qo (l:=s.1.1) (by rw[hcr];simp;intro e;exact gJ (by rw[e];rfl)));clear hcr hlen hm;go_enter Tryz.func122,Tryz.ntmps122;go_wp2;go_ret3;exact mE HR.out rfl rfl (uZ)
 have f60:((s[0].toNat:Int) != 60)=false:=by simp;omega
 have l4:s.1.1.head?=some 60:=by rw[hcr];simp;exact UInt8.toNat_inj.1 gJ
 have hpre:=λW=>iX s ⟨#[60,33,45,45]⟩ W (by omega) (by show 4<=_;omega)
 cases hp:preB ⟨#[60,33,45,45]⟩ s with
 | true=>
  rw[hp]at hpre;have hp':([60,33,45,45]:List UInt8).isPrefixOf s.1.1=true:=hp;have h4:4<=s.size:=by have:=(List.isPrefixOf_iff_prefix.1 hp').length_le;simpa using this
  have z4:(4:Int)<=(s.size:Int):=by omega
  obtain⟨x,hx⟩:∃x,s.extract 4 s.size=x:=⟨_,rfl⟩;have hxl:x.1.1=s.1.1.drop 4:=by rw[<-hx,Lib.extract_data,List.take_of_length_le (by simp)]
  have hxs:x.size=s.size-4:=by rw[<-hx];simp
  have hR:=St.q8 hp';rw[<-hxl]at hR;have bM:=λW (hW:W.cell? ⟨0,0,none⟩=some (UM US m))=>Tryz.strings_Index x ⟨#[45,45,62]⟩ m W (by omega) hW
  have hge:=Lib.index_ge x.1.1 [45,45,62]
  have hle:Lib.index x.1.1 [45,45,62]<=65536:=by
   by_cases hn:Lib.index x.1.1 [45,45,62]<0
   ·omega
   obtain⟨i,hi⟩:∃i:Nat,Lib.index x.1.1 [45,45,62]=(i:Int):=⟨_,(Int.toNat_of_nonneg (by omega)).symm⟩;have:=(St.uw hi).2.2
   rw[St.aC]at this;omega
  have hq:Lib.index x.1.1 (⟨#[45,45,62]⟩:ByteArray).1.1=Lib.index x.1.1 [45,45,62]:=rfl;simp only[hq]at bM;clear hq;generalize Lib.index x.1.1 [45,45,62]=z at hR bM hge hle;have u7:=aa hpre;have dS:=aa bM;have HM:=aa hm;clear hpre bM hm hp hp' hcr l4 hxl hlen
  by_cases hz:z<0
  ·have z1:¬(0:Int)<=z:=by omega
   rw[if_pos hz]at hR;have HR:=aa hR;clear hR;go_enter Tryz.func122,Tryz.ntmps122;go_wp2_with fail;refine(u7.out _).mono ?_;rintro e w2 ⟨rfl,rfl⟩;go_wp2_with fail;refine(dS.out _ ?_).mono ?_
   ·first|exact HM.out|(simp;exact HM.out)
   rintro e w2 ⟨rfl,rfl⟩;go_wp2;go_ret3;simp only[show(decide ((0:Int)<=z))=false from decide_eq_false (by omega)];refine pP HR.out ?_;exact uZ
  have z1:(0:Int)<=z:=by omega
  rw[if_neg hz]at hR;have HR:=aa hR;clear hR;go_enter Tryz.func122,Tryz.ntmps122;go_wp2_with fail;refine(u7.out _).mono ?_;rintro e w2 ⟨rfl,rfl⟩;go_wp2_with fail;refine(dS.out _ ?_).mono ?_
  ·first|exact HM.out|(simp;exact HM.out)
  rintro e w2 ⟨rfl,rfl⟩;go_wp2;go_ret3;simp only[show(decide ((0:Int)<=z))=true from decide_eq_true z1];refine mE HR.out rfl (by omega) ?_;exact uZ
 | false=>
  rw[hp]at hpre;have hp':([60,33,45,45]:List UInt8).isPrefixOf s.1.1=false:=hp;have hR:=St.mq l4 hp';have cV:=λW=>BA s W (by omega) h0 gJ
  have u7:=aa hpre;cases hq:St.fR s.1.1 with
  | none=>
   rw[hq]at hR cV;have HR:=aa hR;have dK:=aa cV;clear hR cV hq hpre hp hp' hcr l4 hlen hm;go_enter Tryz.func122,Tryz.ntmps122;go_wp2_with fail;refine(u7.out _).mono ?_;rintro e w2 ⟨rfl,rfl⟩;go_wp2_with fail;refine(dK.out _).mono ?_;rintro e w3 ⟨hu,k,x,q,rfl⟩;have HU:=aa hu;clear hu;go_wp2;go_ret3;exact pP HR.out (HU.out.trans (uZ))
  | some q=>
   obtain⟨k,t,n⟩:=q
   have htl:t.length<=4611686018427387904:=by
    have:=St.kh hq
    rw[St.aC]at this;omega
   rw[hq]at hR cV;simp only at hR;obtain⟨tb,fF⟩:∃tb:ByteArray,(⟨t.toArray⟩:ByteArray)=tb:=⟨_,rfl⟩;obtain⟨nb,hnb⟩:∃nb:ByteArray,(⟨(St.nameOf t).toArray⟩:ByteArray)=nb:=⟨_,rfl⟩;have a8:=λW=>pj t W htl
   have oq:nb.1.1=St.nameOf t:=by rw[<-hnb]
   have hbk:=λW=>lQ nb W
   rw[oq]at hbk;have nj:∀W,Calls Tryz.prog 166 #[UN s] W λe w'=>ac W w'/\e=UU (UR #[.agg #[UM US k,UN ⟨t.toArray⟩,UM US 0],UM US n,UP true]):=cV
   rw[fF]at nj;rw[fF,hnb]at a8;have bl:=aa a8;have dK:=aa nj;cases hb:St.bu (St.nameOf t)with
   | false=>
    rw[hb]at hR hbk;have jr:=aa hbk;have HR:=aa (show St.dv s.1.1=some (n,[])from hR);clear hR cV nj hq hpre hp hp' hcr l4 hlen hm a8 hbk hb fF hnb oq;go_enter Tryz.func122,Tryz.ntmps122;go_wp2_with fail;refine(u7.out _).mono ?_;rintro e w2 ⟨rfl,rfl⟩;go_wp2_with fail;refine(dK.out _).mono ?_;rintro e w3 ⟨hu,rfl⟩;have HU:=aa hu;clear hu;go_wp2_with fail;refine(bl.out _).mono ?_;rintro e w4 ⟨rfl,hu⟩;have aZ:=aa ((HU.out.alloc _).trans hu);clear hu;go_wp2_with fail;refine(jr.out _).mono ?_;rintro e w5 ⟨rfl,rfl⟩;go_wp2;go_ret3;exact mE HR.out rfl rfl (aZ.out.trans (uZ))
   | true=>
    rw[hb]at hR hbk;have jr:=aa hbk;have HR:=aa (show St.dv s.1.1=if k=2 then some (n,St.nameOf t)else none from hR);have Sw:=aa oq;clear hR cV nj hq hpre hp hp' hcr l4 hlen hm a8 hbk hb fF hnb oq;go_enter Tryz.func122,Tryz.ntmps122;go_wp2_with fail;refine(u7.out _).mono ?_;rintro e w2 ⟨rfl,rfl⟩;go_wp2_with fail;refine(dK.out _).mono ?_;rintro e w3 ⟨hu,rfl⟩;have HU:=aa hu;clear hu;go_wp2_with fail;refine(bl.out _).mono ?_;rintro e w4 ⟨rfl,hu⟩;have dL:=(hu.below.block w3.1.size (by simp)).trans (aR w3 (UT #[UM US k,UN tb,UM US 0] 36) w3.1.size rfl);have x0:w4.cell? ⟨w3.1.size,0,none⟩=some (UM US k):=ak dL 0;have x1:w4.cell? ⟨w3.1.size,1,none⟩=some (UN tb):=ak dL 1;haveI:af w3.1.size w4:=af.of (ae dL);have aZ:=aa ((HU.out.alloc _).trans hu);clear hu dL;go_wp2_with fail;refine(jr.out _).mono ?_;rintro e w5 ⟨rfl,rfl⟩;go_wp2_with fail
    first|refine aM (by kernel_rfl) (by kernel_rfl) ?_|refine aQ (by kernel_rfl) (by kernel_rfl) ?_
    repeat (go_big_quiet_step (first|(go_at_call 129;exact Calls.dM (bl.out _))))
    refine wpQuiet_nil ?_;rintro _ ⟨X,rfl⟩;have bm:=aa (aZ.out.trans (show ac w4 _ from uZ))
    by_cases hk:k=2
    ·subst hk;have k7:=aa (HR.out.trans (if_pos rfl));clear HR;go_wp2;go_ret3;exact mE k7.out Sw.out rfl (bm.out.trans (uZ))
    have hkb:(k==2)=false:=by simpa using hk
    have k7:=aa (HR.out.trans (if_neg hk));clear HR;go_wp2;go_ret3;simp only[hkb];exact pP k7.out (bm.out.trans (uZ))
end
section
section
variable {w W w4:UY} {B b:Nat} {v0 v1 v2 v v':Value} {ah op b7:List St.It} {tx:List UInt8} {cuts:List Nat} {c c':Nat}
theorem BV.R9(h:BV ⟨v,op,c⟩ w B b v0 v1 v2 ah tx cuts)(ho:w.ownsRow B 36 3 v' b7.length (av b7))(hd:v'.ownBlock=v.ownBlock):BV ⟨v',b7,c⟩ (w.setCell ⟨b,3,none⟩ v') B b v0 v1 v2 ah tx cuts:=by
 obtain⟨h0,h1,h2,h3,h4,h5,h6⟩:=h;exact⟨h0,heap_setCell_same w b 3 _ _ v' h1,aA h2 (aU h2 h1 (by decide)),aA h3 (aU h3 h1 (by decide)),aA h4 (aU h4 h1 (by decide)),aA ho (aU ho h1 (by decide)),by unfold xx at h6 |-;rw[hd];exact h6⟩
theorem BV.OU(h:BV ⟨v,op,c⟩ w B b v0 v1 v2 ah tx cuts)(m:Int)(hm:m=(c':Int)):BV ⟨v,op,c'⟩ (w.setCell ⟨b,4,none⟩ (UM US m)) B b v0 v1 v2 ah tx cuts:=by
 subst hm;obtain⟨h0,h1,h2,h3,h4,h5,h6⟩:=h;exact⟨h0,heap_setCell_same w b 4 _ _ _ h1,aA h2 (aU h2 h1 (by decide)),aA h3 (aU h3 h1 (by decide)),aA h4 (aU h4 h1 (by decide)),aA h5 (aU h5 h1 (by decide)),h6⟩
theorem BV.PQ(h:BV ⟨v,op,c⟩ w B b v0 v1 v2 ah tx cuts)(hg:w.grownBy w4 v.ownBlock)(hw:w.1.size<=W.1.size)(hf:oM W v v')(ho:w4.ownsRow B 36 3 v' b7.length (av b7)):BV ⟨v',b7,c⟩ (w4.setCell ⟨b,3,none⟩ v') B b v0 v1 v2 ah tx cuts:=by
 obtain⟨h0,h1,h2,h3,h4,h5,h6⟩:=h;have hb4:w4.1[b]?=some (UT ⟨v0 :: v1 :: v2 :: Mo.l ⟨v,op,c⟩⟩ gS (0,0)):=(hg.block b (ae h1) (λe=>aU h5 h1 (by decide) e.symm)).trans h1;exact⟨h0,heap_setCell_same w4 b 3 _ _ v' hb4,aA (h2.kept hg h6) (aU h2 h1 (by decide)),aA (h3.kept hg (cX h3 h5 (by decide))) (aU h3 h1 (by decide)),aA (h4.kept hg (cX h4 h5 (by decide))) (aU h4 h1 (by decide)),aA ho (aU ho hb4 (by decide)),ui (xV h2 hw (ui h6) hf)⟩
theorem BV.at(h:BV ⟨v,op,c⟩ w B b v0 v1 v2 ah tx cuts):w.cell? ⟨b,3,none⟩=some v/\w.cell? ⟨b,4,none⟩=some (UM US (c:Int))/\w.frozen? ⟨b,3,none⟩=false/\w.frozen? ⟨b,4,none⟩=false/\b<w.1.size/\B<=b:=by
 have hb:=h.2.1;exact⟨ak hb 3,ak hb 4,bk hb 3,bk hb 4,ae hb,h.1⟩
end
def vd(mo:Mo)(w:UY)(B b:Nat)(ah:List St.It)(tx:List UInt8)(cuts:List Nat)(k:Int)(t:List UInt8)(off:Nat)(e:Ending)(w':UY):Prop:=
 Below B w w'/\match St.stepT mo.op mo.c k t with
  | none=>e=UU (UM US 7)
  | some (i,b7,c')=>if 512<(St.aP (ah++St.b8 tx) (k,t,i)).length\/1024<=cuts.length then e=UU (UM US 3)else
    e=UU (UM US 0)/\∃v',bY ⟨v',b7,c'⟩ w' B b (ah++St.b8 tx++[(k,t,i)]) [] (cuts++[off])
section
variable {mo:Mo} {w:UY} {B b:Nat} {ah:List St.It} {tx:List UInt8} {cuts:List Nat} {k:Int} {t:List UInt8} {off:Nat} {w':UY} {i:Int} {b7:List St.It} {c':Nat}
theorem vt{f:List St.It}{t:List UInt8}(k:Int)(s:List UInt8)(i:Int)(nc:Nat)(hk:k≠1):(512<(St.aP (f++St.b8 t) (k,s,i)).length\/1024<=nc) ↔ St.aV f.length t.length nc false=true:=by
 rw[<-St.jI (f:=f) (t:=t) k s nc hk]
 have e:(St.aP (f++St.b8 t) (k,s,i)).length=(St.aP (f++St.b8 t) (k,s,0)).length:=by
  unfold St.aP;rw[if_neg hk,if_neg hk];simp
 rw[e]
theorem Below.ai{B:Nat}{a b c:UY}(h:Below B a b)(hB:B<=b.1.size)(u:ac b c):Below B a c:=h.trans (u.below.mono hB)
theorem Ea(h:St.stepT mo.op mo.c k t=none)(hb:Below B w w'):vd mo w B b ah tx cuts k t off (UU (UM US 7)) w':=by
 refine⟨hb,?_⟩;rw[h]
theorem xq(h:St.stepT mo.op mo.c k t=some (i,b7,c'))(hk:k≠1)(hf:St.aV ah.length tx.length cuts.length false=true)(hb:Below B w w'):vd mo w B b ah tx cuts k t off (UU (UM US 3)) w':=by
 refine⟨hb,?_⟩;rw[h];simp only;rw[if_pos ((vt k t i cuts.length hk).2 hf)];trivial
theorem xv(h:St.stepT mo.op mo.c k t=some (i,b7,c'))(hk:k≠1)(hf:St.aV ah.length tx.length cuts.length false=false)(hb:Below B w w'){v':Value}(hB:bY ⟨v',b7,c'⟩ w' B b (ah++St.b8 tx++[(k,t,i)]) [] (cuts++[off])):vd mo w B b ah tx cuts k t off (UU (UM US 0)) w':=by
 refine⟨hb,?_⟩;rw[h];simp only;rw[if_neg (λh2=>by rw[(vt k t i cuts.length hk).1 h2]at hf;cases hf)];exact⟨trivial,v',hB⟩
end
theorem F0(mo:Mo)(w:UY)(B b:Nat)(ah:List St.It)(tx:List UInt8)(cuts:List Nat)(k:Int)(x:ByteArray)(off:Nat)(h:bY mo w B b ah tx cuts)(hk:k=2\/k=3\/k=4)(h1:ah.length<=512)(h2:cuts.length<=1024)(h3:tx.length<=cuts.length)(h4:mo.op.length<=2000)(h5:mo.c<=2000)(h6:bc mo.op<=4611686018427387904)(hBw:B<=w.1.size)
  (hx:x.size<=4611686018427387904) :
  Calls Tryz.prog 198 #[UQ (some ⟨b,0,none⟩),.agg #[UM US k,UN x,UM US 0],UM US off] w (vd mo w B b ah tx cuts k x.1.1 off):=by
 obtain⟨v,op,c⟩:=mo;simp only at h4 h5 h6;obtain⟨v0,v1,v2,hv⟩:=h;obtain⟨A3,c3,rfl,hc31,hc32⟩:=aL (show w.ownsRow B 36 3 v op.length (av op)from hv.2.2.2.2.2.1);obtain⟨g3,g4,f3,f4,hblt,hBb⟩:=hv.at;have g3':w.cell? ⟨b,3,none⟩=some (UO A3 op.length c3):=g3;clear g3;haveI:af b w:=af.of hblt;have HV:=aa hv;rcases hk with rfl|rfl|rfl
 ·
  have HST:=aa (show St.stepT (⟨UO A3 op.length c3,op,c⟩:Mo).op c 2 x.1.1=some ((c:Int)+1,op++[(2,x.1.1,(c:Int)+1)],c+1)from rfl);clear hv;obtain⟨i0,hi,hz0,hz1,hz2⟩:=info_parts dw;go_enter Tryz.func198,Tryz.ntmps198;go_wp2_with fail;have oz:ac (w.setCell ⟨b,4,none⟩ (UM US ((c:Int)+1))) ((w.setCell ⟨b,4,none⟩ (UM US ((c:Int)+1))).alloc (UT #[UM US 2,UN x,UM US ((c:Int)+1)] 36)):=uZ;have C7:=aa ((BV.OU (c':=c+1) HV.out ((c:Int)+1) (by omega)).ai oz);have pC:=aa (aR (w.setCell ⟨b,4,none⟩ (UM US ((c:Int)+1))) (UT #[UM US 2,UN x,UM US ((c:Int)+1)] 36) w.1.size (by simp));have SV:B<=((w.setCell ⟨b,4,none⟩ (UM US ((c:Int)+1))).alloc (UT #[UM US 2,UN x,UM US ((c:Int)+1)] 36)).1.size:=by simp;omega
  have P2:=aa ((((Below.refl B w).setCell (p:=⟨b,4,none⟩) hBb (.int .i64 ((c:Int)+1))).alloc (by simp;omega) (Obj.cells #[.int .i64 2,.string x,.int .i64 ((c:Int)+1)] 36)));clear oz;generalize(w.setCell ⟨b,4,none⟩ (.int .i64 ((c:Int)+1))).alloc (Obj.cells #[.int .i64 2,.string x,.int .i64 ((c:Int)+1)] 36)=W8 at *;obtain⟨q3,_,qf3,_,hlt8,_⟩:=C7.out.at;have q3':W8.cell? ⟨b,3,none⟩=some (.slice A3 op.length c3):=q3;have x0:W8.cell? ⟨w.1.size,0,none⟩=some (.int .i64 2):=ak pC.out 0;have x1:W8.cell? ⟨w.1.size,1,none⟩=some (.string x):=ak pC.out 1;have x2:W8.cell? ⟨w.1.size,2,none⟩=some (.int .i64 ((c:Int)+1)):=ak pC.out 2;haveI:af w.1.size W8:=af.of (ae pC.out);haveI:af b W8:=af.of hlt8;have fi:=aa (show W8.ownsRow B 36 3 (.slice A3 op.length c3) op.length (av op)from C7.out.2.2.2.2.2.1);clear q3;generalize hno:op.length=no at *;go_region_law (refine jh rfl (.tmp 72) (.tmp 74) 37 rfl B 36 i0 (.agg #[.int .i64 0,.string ⟨#[]⟩,.int .i64 0]) 3 32 Tryz.underlying37 hi hz0 hz1 hz2 rfl (by decide) (.slice A3 no c3) no _ rfl (eK (fi.out.alloc (.cells #[.int .i64 2,.string x,.int .i64 ((c:Int)+1)] 36)) (ac.refl _).drew) ⟨W8.1.size,0,none⟩ 1 1 [.int .i64 2,.string x,.int .i64 ((c:Int)+1)] rfl rfl (eA W8 _ _ _ 36 _ rfl) (cN 2 ((c:Int)+1) _) (by unfold maxLen;omega) (by omega) (by simp;omega) ?_;intro v' w1 hown' hgrow sw;have hgr:=aW (ac.gb (uZ:ac W8 (W8.alloc (.cells #[.int .i64 2,.string x,.int .i64 ((c:Int)+1)] 36)).drew) (Value.slice A3 no c3).ownBlock) hgrow (λg e=>Or.inl e);have hb4:=(hgr.block b hlt8 (λe=>aU fi.out C7.out.2.1 (by decide) e.symm)).trans C7.out.2.1;have e3:w1.cell? ⟨b,3,none⟩=some (.slice A3 no c3):=ak hb4 3;have f3':w1.frozen? ⟨b,3,none⟩=false:=bk hb4 3;haveI:af b w1:=af.of (ae hb4);obtain⟨A',c',rfl,_⟩:=aL hown')
  all_goals
   have AM:BV ⟨UO A' (no+1) c',op++[(2,x.1.1,(c:Int)+1)],c+1⟩ (w1.setCell ⟨b,3,none⟩ (UO A' (no+1) c')) B b v0 v1 v2 ah tx cuts:=by
    refine BV.PQ C7.out (by simpa using hgr) (by simp) sw ?_;rw[List.length_append,List.length_singleton,hno,bE];simp only[be];exact hown'
   have AR:(w1.setCell ⟨b,3,none⟩ (UO A' (no+1) c')).1[w.1.size]?=some (UT #[UM US 2,UN x,UM US ((c:Int)+1)] 36):=by
    rw[heap_setCell_other _ _ _ _ (by show w.1.size≠b;omega)];refine(hgr.block _ (ae pC.out) (λe=>?_)).trans pC.out;have:=(HV.out.2.2.2.2.2.1.lt w.1.size (by rw[e])).2
    omega
   have um:Below B w (w1.setCell ⟨b,3,none⟩ (UO A' (no+1) c')):=dn P2.out SV hgr (λg hg=>aG fi.out g hg) hBb;have G4:B<=(w1.setCell ⟨b,3,none⟩ (UO A' (no+1) c')).1.size:=Nat.le_trans hBw um.size;have Gp:=aa AM;have oO:=aa AR;have Gb:=aa um;clear AM AR um hgr hgrow hown' hb4 sw e3 f3' C7 pC P2 fi x0 x1 x2 q3' qf3;generalize w1.setCell ⟨b,3,none⟩ (UO A' (no+1) c')=W9 at *;go_wp2_with fail;have HIT:=aa (kO W9.drew B b ah tx cuts 2 ((c:Int)+1) x off (bY.ai ⟨_,_,_,Gp.out⟩ ((ac.refl W9).drew)) (by omega) (by omega) (by omega) G4);have x0:W9.cell? ⟨w.1.size,0,none⟩=some (UM US 2):=ak oO.out 0;have x1:W9.cell? ⟨w.1.size,1,none⟩=some (UN x):=ak oO.out 1;have x2:W9.cell? ⟨w.1.size,2,none⟩=some (UM US ((c:Int)+1)):=ak oO.out 2;haveI:af w.1.size W9:=af.of (ae oO.out);refine bz (λ_ _=>True) (λL W=>if L 5=true then(St.aV ah.length tx.length cuts.length false=false->bY ⟨UO A' (no+1) c',op++[(2,x.1.1,(c:Int)+1)],c+1⟩ W B b (ah++St.b8 tx++[(2,x.1.1,((c:Int)+1))]) [] (cuts++[off]))/\Below B W9.drew W else W=W9.drew) ([λv _=>v=UQ (some ⟨b,0,none⟩),λv _=>v=UQ (some ⟨b,0,none⟩),λv _=>v=UQ (some ⟨b,0,none⟩),λv _=>v=.agg #[UM US 2,UN x,UM US ((c:Int)+1)],λv _=>v=UM US (off:Int),λv _=>v=UP (!St.aV ah.length tx.length cuts.length false),λv _=>v=UM US (ic (!St.aV ah.length tx.length cuts.length false)),λv _=>v=UM US (ic (!St.aV ah.length tx.length cuts.length false))]) (λ_=>trivial) (λ_ _ _ _ _=>trivial) (by kernel_rfl) (by rfl) (by kernel_rfl) (by kernel_rfl) ?_ ?_ ?_ ?_ ?_;rotate_left 1
   ·intro ρ;simp only[ch,Act.put,aq,al,ar,Nat.zero_add,Nat.reduceAdd];exact rfl
   ·simp
   ·refine aj.cons (λρ L W hR hI hL hD hO hF K hK=>?_) ?_
    ·clear hF hD hO hR;simp only[Act.put,aq,al,ar]at hK |-;go_simp;refine hK _ _ trivial (by simpa[au]using hI) (λ_ _=>rfl)
    refine aj.cons (λρ L W hR hI hL hD hO hF K hK=>?_) ?_
    ·have f0:=ag hF (j:=0) (by decide);clear hF hD hO hR;simp only[Act.put,aq,al,ar]at hK |-;have e0:ρ 0=UQ (some ⟨b,0,none⟩):=f0;rw[e0]at hK |-;go_simp;refine hK _ _ trivial (by simpa[au]using hI) (λ_ _=>rfl)
    refine aj.cons (λρ L W hR hI hL hD hO hF K hK=>?_) ?_
    ·have f1:=ag hF (j:=1) (by decide);clear hF hD hO hR;simp only[Act.put,aq,al,ar]at hK |-;have e1:ρ 1=UQ (some ⟨b,0,none⟩):=f1;rw[e1]at hK |-;go_simp;refine hK _ _ trivial (by simpa[au]using hI) (λ_ _=>rfl)
    refine aj.cons (λρ L W hR hI hL hD hO hF K hK=>?_) ?_
    ·have jJ:L 5=false:=hD.not (p:=5) rfl (by decide) hL;rw[if_neg (by rw[jJ];decide)]at hI;subst hI;clear hF hD hO hR;simp only[Act.put,aq,al,ar]at hK |-;go_simp;refine hK _ _ trivial (by simp[au,jJ]) (λ_ _=>rfl)
    refine aj.cons (λρ L W hR hI hL hD hO hF K hK=>?_) ?_
    ·clear hF hD hO hR;simp only[Act.put,aq,al,ar]at hK |-;go_simp;refine hK _ _ trivial (by simpa[au]using hI) (λ_ _=>rfl)
    refine aj.cons (λρ L W hR hI hL hD hO hF K hK=>?_) ?_
    ·have f2:=ag hF (j:=2) (by decide);have f3:=ag hF (j:=3) (by decide);have f4:=ag hF (j:=4) (by decide);rw[if_neg (by rw[hL];decide)]at hI;subst hI;clear hF hD hO hR;simp only[Act.put,aq,al,ar]at hK |-;have e2:ρ 2=UQ (some ⟨b,0,none⟩):=f2;have e3:ρ 3=.agg #[UM US 2,UN x,UM US ((c:Int)+1)]:=f3;have e4:ρ 4=UM US (off:Int):=f4;rw[e2,e3,e4]at hK |-;go_simp;go_at_call 164;refine HIT.out.mono ?_;rintro e W2 ⟨rfl,h1,h2⟩;exact hK _ _ trivial (by simp only[au,if_true];exact⟨h1,h2⟩) (λ_ _=>rfl)
    refine aj.cons (λρ L W hR hI hL hD hO hF K hK=>?_) ?_
    ·have f5:=ag hF (j:=5) (by decide);clear hF hD hO hR;simp only[Act.put,aq,al,ar]at hK |-;have e5:ρ 5=UP (!St.aV ah.length tx.length cuts.length false):=f5;rw[e5]at hK |-;go_simp;go_at_call 200;refine(j8 _ _).mono ?_;rintro e W2 ⟨rfl,rfl⟩;exact hK _ _ trivial (by simpa[au]using hI) (λ_ _=>rfl)
    refine aj.cons (λρ L W hR hI hL hD hO hF K hK=>?_) ?_
    ·have f6:=ag hF (j:=6) (by decide);clear hF hD hO hR;simp only[Act.put,aq,al,ar]at hK |-;have e6:ρ 6=UM US (ic (!St.aV ah.length tx.length cuts.length false)):=f6;rw[e6]at hK |-;go_simp;refine hK _ _ trivial (by simpa[au]using hI) (λ_ _=>rfl)
    exact aj.nil
   intro ρ L W hR hI hL hF;obtain⟨_,_,_,_,_,_,_,g7,_⟩:=hF;have g7:ρ 7=UM US (ic (!St.aV ah.length tx.length cuts.length false)):=g7;rw[g7];clear g7 hR;rw[if_pos (hL 5 (by decide))]at hI;obtain⟨eF,hbl⟩:=hI;have cZ:=aa (Below.trans Gb.out (Below.trans ((Below.refl B W9).drew) hbl));have ie:=aa eF;clear eF hbl hL;cases hfu:St.aV ah.length tx.length cuts.length false
   ·have ck:=aa hfu;clear hfu;go_wp2;go_ret;exact xv HST.out (by decide) ck.out cZ.out (ie.out ck.out)
   have ck:=aa hfu;clear hfu;go_wp2;go_ret;exact xq HST.out (by decide) ck.out cZ.out
 ·rcases St.cG op with rfl|⟨o1,o,rfl⟩
  ·
   have HST:=aa (show St.stepT (⟨UO A3 ([]:List St.It).length c3,[],c⟩:Mo).op c 3 x.1.1=none from rfl);simp only[List.length_nil]at g3';have z0:((0:Int)==0)=true:=rfl;clear hv;go_enter Tryz.func198,Tryz.ntmps198;go_wp2_with fail
   first|refine aM (by kernel_rfl) (by kernel_rfl) ?_|refine aQ (by kernel_rfl) (by kernel_rfl) ?_
   repeat (go_big_quiet_step (first|(fail)))
   refine wpQuiet_nil ?_;rintro _ ⟨X,rfl⟩;go_wp2;go_ret;exact Ea HST.out (Below.ai (Below.refl _ _) hBw uZ)
  ·
   obtain⟨m,hm⟩:∃m,o1.length=m:=⟨_,rfl⟩;have hol:(o1++[o]).length=m+1:=by simp[hm]
   have bN:=hv.2.2.2.2.2.1;simp only at bN;rw[hol]at g3' bN;obtain⟨g,rfl,kw,hgl,hgc⟩:=fg bN (by omega);have AZ:(o1++[o])[m]?=some o:=by rw[<-hm];simp
   have hcs:=j6 (o1++[o]) m (by rw[hol];omega);have ym:(o1++[o])[m]'(by rw[hol];omega)=o:=Option.some.inj ((List.getElem?_eq_getElem (by rw[hol];omega)).symm.trans AZ);rw[ym]at hcs;have i1:=hgc _ _ hcs.2.1;have i2:=hgc _ _ hcs.2.2
   have Ou:o.2.1.length<=4611686018427387904:=by
    have:bc (o1++[o])=bc o1+o.2.1.length:=cR o1 o
    omega
   obtain⟨ok,ot,oi⟩:=o;simp only at i1 i2 Ou;haveI:af g w:=af.of hgl;have z0:(((m+1:Nat):Int)==0)=false:=by simp;omega
   have tW:((m:Int)+1==0)=false:=by simp;omega
   have z3:(m:Int)<((m+1:Nat):Int):=by omega
   have Uu:m+1<=c3:=by omega
   have AW:m<=2000:=by omega
   have Gh:=aa hol;have fi:=aa bN;have bl:=aa (λW=>pj ot W (by omega));have HM:=aa hm;clear hv hcs hgc AZ ym hol bN hm;obtain⟨sb,nx⟩:∃sb:ByteArray,(⟨ot.toArray⟩:ByteArray)=sb:=⟨_,rfl⟩;obtain⟨nb,hnb⟩:∃nb:ByteArray,(⟨(St.nameOf ot).toArray⟩:ByteArray)=nb:=⟨_,rfl⟩;rw[nx,hnb]at bl;rw[nx]at i1;have hnl:nb.1.1=St.nameOf ot:=by rw[<-hnb]
   clear nx hnb;obtain⟨bq,hq⟩:∃bq,(nb.toList != x.toList)=bq:=⟨_,rfl⟩
   have hst:St.stepT (⟨UO (some ⟨g,0,none⟩) (m+1) c3,o1++[(ok,ot,oi)],c⟩:Mo).op c 3 x.1.1=if bq then none else some (oi,o1,c):=by
    show St.stepT (o1++[(ok,ot,oi)]) c 3 x.1.1=_
    unfold St.stepT;simp only[if_true,List.getLast?_append,List.getLast?_singleton,Option.some_or,List.dropLast_concat];cases bq
    ·rw[bne_eq_false_iff_eq,Lib.toList_data,Lib.toList_data,hnl]at hq;rw[if_pos hq];rfl
    rw[bne_iff_ne,Lib.toList_data,Lib.toList_data,hnl]at hq;rw[if_neg hq];rfl
   have HST:=aa hst;clear hst hnl;go_enter Tryz.func198,Tryz.ntmps198;go_wp2_with fail
   first|refine aM (by kernel_rfl) (by kernel_rfl) ?_|refine aQ (by kernel_rfl) (by kernel_rfl) ?_
   repeat (go_big_quiet_step (first|(go_at_call 129;exact Calls.dM (bl.out _))))
   refine wpQuiet_nil ?_;rintro _ ⟨X,rfl⟩;have hI:ac (w.alloc (UT #[UM US 3,UN x,UM US 0] 36)) (under (w.alloc (UT #[UM US 3,UN x,UM US 0] 36)) X):=⟨X,rfl⟩;generalize under (w.alloc (UT #[UM US 3,UN x,UM US 0] 36)) X=W at *;have HU:=aa (((ac.refl w).alloc _).trans hI);cases bq;rotate_left 1
   ·have Oz:(nb.toList==x.toList)=false:=by simpa using hq
    have Hv:(!(nb.toList==x.toList))=true:=hq;simp only[Hv];clear hI;go_wp2;go_ret;exact Ea HST.out (Below.ai (Below.refl _ _) hBw HU.out)
   have Oz:(nb.toList==x.toList)=true:=by simpa using hq
   have Hv:(!(nb.toList==x.toList))=false:=hq;simp only[Hv];obtain⟨qa,_,qf3,_,hltb,_⟩:=(HV.out.ai HU.out).at;clear qa;have q3:W.cell? ⟨b,3,none⟩=some (UO (some ⟨g,0,none⟩) (m+1) c3):=(HU.out.cell (p:=⟨b,3,none⟩) hblt).trans g3';have q2:W.cell? ⟨g,m*3+2,none⟩=some (UM US oi):=(HU.out.cell (p:=⟨g,m*3+2,none⟩) hgl).trans i2;have dL:=(hI.below.block w.1.size (by simp)).trans (aR w (UT #[UM US 3,UN x,UM US 0] 36) w.1.size rfl);have x2:W.cell? ⟨w.1.size,2,none⟩=some (UM US 0):=ak dL 2;have LU:W.frozen? ⟨w.1.size,2,none⟩=false:=bk dL 2;have TI:W.cell? ⟨w.1.size,0,none⟩=some (UM US 3):=ak dL 0;have hbb:¬b=w.1.size:=by omega
   have wT:¬w.1.size=b:=by omega
   haveI:af b W:=af.of hltb;haveI:af w.1.size W:=af.of (ae dL);haveI:af g W:=af.of (Nat.lt_of_lt_of_le hgl HU.out.size);have pC:=aa dL;have aZ:=aa (HU.out.setCell (p:=⟨w.1.size,2,none⟩) (Nat.le_refl _) (UM US oi));clear hI dL;go_wp2_with fail;have hos:W.ownsRow B 36 3 (UO (some ⟨g,0,none⟩) (m+1) c3) (m+1) (av (o1++[(ok,ot,oi)])):=aE HU.out fi.out
   have Fb:(av (o1++[(ok,ot,oi)])).take (m*3)=av o1:=by
    rw[bE,List.take_left' (by rw[jF,HM.out])]
   have hsh:=tP hos m (by omega);rw[Fb]at hsh
   have AM:BV ⟨UO (some ⟨g,0,none⟩) m c3,o1,c⟩ ((W.setCell ⟨w.1.size,2,none⟩ (UM US oi)).setCell ⟨b,3,none⟩ (UO (some ⟨g,0,none⟩) m c3)) B b v0 v1 v2 ah tx cuts:=by
    refine BV.R9 (HV.out.ai aZ.out) ?_ rfl;have:=aA (b:=w.1.size) (i:=2) (u:=UM US oi) hsh (by simp[Value.ownBlock];omega)
    rw[HM.out];exact this
   have AR:((W.setCell ⟨w.1.size,2,none⟩ (UM US oi)).setCell ⟨b,3,none⟩ (UO (some ⟨g,0,none⟩) m c3)).1[w.1.size]?=some (UT #[UM US 3,UN x,UM US oi] 36):=by
    rw[heap_setCell_other _ _ _ _ (by show w.1.size≠b;omega)];exact heap_setCell_same _ _ 2 _ _ _ pC.out
   have um:Below B w ((W.setCell ⟨w.1.size,2,none⟩ (UM US oi)).setCell ⟨b,3,none⟩ (UO (some ⟨g,0,none⟩) m c3)):=(Below.ai (Below.refl _ _) hBw aZ.out).setCell (p:=⟨b,3,none⟩) hBb _;have G4:B<=((W.setCell ⟨w.1.size,2,none⟩ (UM US oi)).setCell ⟨b,3,none⟩ (UO (some ⟨g,0,none⟩) m c3)).1.size:=Nat.le_trans hBw um.size;have Gp:=aa AM;have oO:=aa AR;have Gb:=aa um;clear AM AR um hsh Fb hos HU aZ pC TI x2 LU q2 q3 qf3;generalize(W.setCell ⟨w.1.size,2,none⟩ (UM US oi)).setCell ⟨b,3,none⟩ (UO (some ⟨g,0,none⟩) m c3)=W9 at *;go_wp2_with fail;have HIT:=aa (kO W9.drew B b ah tx cuts 3 oi x off (bY.ai ⟨_,_,_,Gp.out⟩ ((ac.refl W9).drew)) (by omega) (by omega) (by omega) G4);have x0:W9.cell? ⟨w.1.size,0,none⟩=some (UM US 3):=ak oO.out 0;have x1:W9.cell? ⟨w.1.size,1,none⟩=some (UN x):=ak oO.out 1;have x2:W9.cell? ⟨w.1.size,2,none⟩=some (UM US oi):=ak oO.out 2;haveI:af w.1.size W9:=af.of (ae oO.out);refine bz (λ_ _=>True) (λL W=>if L 5=true then(St.aV ah.length tx.length cuts.length false=false->bY ⟨UO (some ⟨g,0,none⟩) m c3,o1,c⟩ W B b (ah++St.b8 tx++[(3,x.1.1,oi)]) [] (cuts++[off]))/\Below B W9.drew W else W=W9.drew) ([λv _=>v=UQ (some ⟨b,0,none⟩),λv _=>v=UQ (some ⟨b,0,none⟩),λv _=>v=UQ (some ⟨b,0,none⟩),λv _=>v=.agg #[UM US 3,UN x,UM US oi],λv _=>v=UM US (off:Int),λv _=>v=UP (!St.aV ah.length tx.length cuts.length false),λv _=>v=UM US (ic (!St.aV ah.length tx.length cuts.length false)),λv _=>v=UM US (ic (!St.aV ah.length tx.length cuts.length false))]) (λ_=>trivial) (λ_ _ _ _ _=>trivial) (by kernel_rfl) (by rfl) (by kernel_rfl) (by kernel_rfl) ?_ ?_ ?_ ?_ ?_;rotate_left 1
   ·intro ρ;simp only[ch,Act.put,aq,al,ar,Nat.zero_add,Nat.reduceAdd];exact rfl
   ·simp
   ·refine aj.cons (λρ L W hR hI hL hD hO hF K hK=>?_) ?_
    ·clear hF hD hO hR;simp only[Act.put,aq,al,ar]at hK |-;go_simp;refine hK _ _ trivial (by simpa[au]using hI) (λ_ _=>rfl)
    refine aj.cons (λρ L W hR hI hL hD hO hF K hK=>?_) ?_
    ·have f0:=ag hF (j:=0) (by decide);clear hF hD hO hR;simp only[Act.put,aq,al,ar]at hK |-;have e0:ρ 0=UQ (some ⟨b,0,none⟩):=f0;rw[e0]at hK |-;go_simp;refine hK _ _ trivial (by simpa[au]using hI) (λ_ _=>rfl)
    refine aj.cons (λρ L W hR hI hL hD hO hF K hK=>?_) ?_
    ·have f1:=ag hF (j:=1) (by decide);clear hF hD hO hR;simp only[Act.put,aq,al,ar]at hK |-;have e1:ρ 1=UQ (some ⟨b,0,none⟩):=f1;rw[e1]at hK |-;go_simp;refine hK _ _ trivial (by simpa[au]using hI) (λ_ _=>rfl)
    refine aj.cons (λρ L W hR hI hL hD hO hF K hK=>?_) ?_
    ·have jJ:L 5=false:=hD.not (p:=5) rfl (by decide) hL;rw[if_neg (by rw[jJ];decide)]at hI;subst hI;clear hF hD hO hR;simp only[Act.put,aq,al,ar]at hK |-;go_simp;refine hK _ _ trivial (by simp[au,jJ]) (λ_ _=>rfl)
    refine aj.cons (λρ L W hR hI hL hD hO hF K hK=>?_) ?_
    ·clear hF hD hO hR;simp only[Act.put,aq,al,ar]at hK |-;go_simp;refine hK _ _ trivial (by simpa[au]using hI) (λ_ _=>rfl)
    refine aj.cons (λρ L W hR hI hL hD hO hF K hK=>?_) ?_
    ·have f2:=ag hF (j:=2) (by decide);have f3:=ag hF (j:=3) (by decide);have f4:=ag hF (j:=4) (by decide);rw[if_neg (by rw[hL];decide)]at hI;subst hI;clear hF hD hO hR;simp only[Act.put,aq,al,ar]at hK |-;have e2:ρ 2=UQ (some ⟨b,0,none⟩):=f2;have e3:ρ 3=.agg #[UM US 3,UN x,UM US oi]:=f3;have e4:ρ 4=UM US (off:Int):=f4;rw[e2,e3,e4]at hK |-;go_simp;go_at_call 164;refine HIT.out.mono ?_;rintro e W2 ⟨rfl,h1,h2⟩;exact hK _ _ trivial (by simp only[au,if_true];exact⟨h1,h2⟩) (λ_ _=>rfl)
    refine aj.cons (λρ L W hR hI hL hD hO hF K hK=>?_) ?_
    ·have f5:=ag hF (j:=5) (by decide);clear hF hD hO hR;simp only[Act.put,aq,al,ar]at hK |-;have e5:ρ 5=UP (!St.aV ah.length tx.length cuts.length false):=f5;rw[e5]at hK |-;go_simp;go_at_call 200;refine(j8 _ _).mono ?_;rintro e W2 ⟨rfl,rfl⟩;exact hK _ _ trivial (by simpa[au]using hI) (λ_ _=>rfl)
    refine aj.cons (λρ L W hR hI hL hD hO hF K hK=>?_) ?_
    ·have f6:=ag hF (j:=6) (by decide);clear hF hD hO hR;simp only[Act.put,aq,al,ar]at hK |-;have e6:ρ 6=UM US (ic (!St.aV ah.length tx.length cuts.length false)):=f6;rw[e6]at hK |-;go_simp;refine hK _ _ trivial (by simpa[au]using hI) (λ_ _=>rfl)
    exact aj.nil
   intro ρ L W hR hI hL hF;obtain⟨_,_,_,_,_,_,_,g7,_⟩:=hF;have g7:ρ 7=UM US (ic (!St.aV ah.length tx.length cuts.length false)):=g7;rw[g7];clear g7 hR;rw[if_pos (hL 5 (by decide))]at hI;obtain⟨eF,hbl⟩:=hI;have cZ:=aa (Below.trans Gb.out (Below.trans ((Below.refl B W9).drew) hbl));have ie:=aa eF;clear eF hbl hL;cases hfu:St.aV ah.length tx.length cuts.length false
   ·have ck:=aa hfu;clear hfu;go_wp2;go_ret;exact xv HST.out (by decide) ck.out cZ.out (ie.out ck.out)
   have ck:=aa hfu;clear hfu;go_wp2;go_ret;exact xq HST.out (by decide) ck.out cZ.out
 ·
  have HST:=aa (show St.stepT (⟨UO A3 op.length c3,op,c⟩:Mo).op c 4 x.1.1=some ((c:Int)+1,op,c+1)from rfl);clear hv;go_enter Tryz.func198,Tryz.ntmps198;go_wp2_with fail;have lj:ac (w.setCell ⟨b,4,none⟩ (UM US ((c:Int)+1))) ((w.setCell ⟨b,4,none⟩ (UM US ((c:Int)+1))).alloc (UT #[UM US 4,UN x,UM US ((c:Int)+1)] 36)):=uZ;have Gp:=aa ((BV.OU (c':=c+1) HV.out ((c:Int)+1) (by omega)).ai lj);have oO:=aa (aR (w.setCell ⟨b,4,none⟩ (UM US ((c:Int)+1))) (UT #[UM US 4,UN x,UM US ((c:Int)+1)] 36) w.1.size (by simp));have G4:B<=((w.setCell ⟨b,4,none⟩ (UM US ((c:Int)+1))).alloc (UT #[UM US 4,UN x,UM US ((c:Int)+1)] 36)).1.size:=by simp;omega
  have Gb:=aa ((((Below.refl B w).setCell (p:=⟨b,4,none⟩) hBb (UM US ((c:Int)+1))).alloc (by simp;omega) (UT #[UM US 4,UN x,UM US ((c:Int)+1)] 36)));clear lj;generalize(w.setCell ⟨b,4,none⟩ (UM US ((c:Int)+1))).alloc (UT #[UM US 4,UN x,UM US ((c:Int)+1)] 36)=W9 at *;have HIT:=aa (kO W9.drew B b ah tx cuts 4 ((c:Int)+1) x off (bY.ai ⟨_,_,_,Gp.out⟩ ((ac.refl W9).drew)) (by omega) (by omega) (by omega) G4);have x0:W9.cell? ⟨w.1.size,0,none⟩=some (UM US 4):=ak oO.out 0;have x1:W9.cell? ⟨w.1.size,1,none⟩=some (UN x):=ak oO.out 1;have x2:W9.cell? ⟨w.1.size,2,none⟩=some (UM US ((c:Int)+1)):=ak oO.out 2;haveI:af w.1.size W9:=af.of (ae oO.out);refine bz (λ_ _=>True) (λL W=>if L 5=true then(St.aV ah.length tx.length cuts.length false=false->bY ⟨UO A3 op.length c3,op,c+1⟩ W B b (ah++St.b8 tx++[(4,x.1.1,((c:Int)+1))]) [] (cuts++[off]))/\Below B W9.drew W else W=W9.drew) ([λv _=>v=UQ (some ⟨b,0,none⟩),λv _=>v=UQ (some ⟨b,0,none⟩),λv _=>v=UQ (some ⟨b,0,none⟩),λv _=>v=.agg #[UM US 4,UN x,UM US ((c:Int)+1)],λv _=>v=UM US (off:Int),λv _=>v=UP (!St.aV ah.length tx.length cuts.length false),λv _=>v=UM US (ic (!St.aV ah.length tx.length cuts.length false)),λv _=>v=UM US (ic (!St.aV ah.length tx.length cuts.length false))]) (λ_=>trivial) (λ_ _ _ _ _=>trivial) (by kernel_rfl) (by rfl) (by kernel_rfl) (by kernel_rfl) ?_ ?_ ?_ ?_ ?_;rotate_left 1
  ·intro ρ;simp only[ch,Act.put,aq,al,ar,Nat.zero_add,Nat.reduceAdd];exact rfl
  ·simp
  ·refine aj.cons (λρ L W hR hI hL hD hO hF K hK=>?_) ?_
   ·clear hF hD hO hR;simp only[Act.put,aq,al,ar]at hK |-;go_simp;refine hK _ _ trivial (by simpa[au]using hI) (λ_ _=>rfl)
   refine aj.cons (λρ L W hR hI hL hD hO hF K hK=>?_) ?_
   ·have f0:=ag hF (j:=0) (by decide);clear hF hD hO hR;simp only[Act.put,aq,al,ar]at hK |-;have e0:ρ 0=UQ (some ⟨b,0,none⟩):=f0;rw[e0]at hK |-;go_simp;refine hK _ _ trivial (by simpa[au]using hI) (λ_ _=>rfl)
   refine aj.cons (λρ L W hR hI hL hD hO hF K hK=>?_) ?_
   ·have f1:=ag hF (j:=1) (by decide);clear hF hD hO hR;simp only[Act.put,aq,al,ar]at hK |-;have e1:ρ 1=UQ (some ⟨b,0,none⟩):=f1;rw[e1]at hK |-;go_simp;refine hK _ _ trivial (by simpa[au]using hI) (λ_ _=>rfl)
   refine aj.cons (λρ L W hR hI hL hD hO hF K hK=>?_) ?_
   ·have jJ:L 5=false:=hD.not (p:=5) rfl (by decide) hL;rw[if_neg (by rw[jJ];decide)]at hI;subst hI;clear hF hD hO hR;simp only[Act.put,aq,al,ar]at hK |-;go_simp;refine hK _ _ trivial (by simp[au,jJ]) (λ_ _=>rfl)
   refine aj.cons (λρ L W hR hI hL hD hO hF K hK=>?_) ?_
   ·clear hF hD hO hR;simp only[Act.put,aq,al,ar]at hK |-;go_simp;refine hK _ _ trivial (by simpa[au]using hI) (λ_ _=>rfl)
   refine aj.cons (λρ L W hR hI hL hD hO hF K hK=>?_) ?_
   ·have f2:=ag hF (j:=2) (by decide);have f3:=ag hF (j:=3) (by decide);have f4:=ag hF (j:=4) (by decide);rw[if_neg (by rw[hL];decide)]at hI;subst hI;clear hF hD hO hR;simp only[Act.put,aq,al,ar]at hK |-;have e2:ρ 2=UQ (some ⟨b,0,none⟩):=f2;have e3:ρ 3=.agg #[UM US 4,UN x,UM US ((c:Int)+1)]:=f3;have e4:ρ 4=UM US (off:Int):=f4;rw[e2,e3,e4]at hK |-;go_simp;go_at_call 164;refine HIT.out.mono ?_;rintro e W2 ⟨rfl,h1,h2⟩;exact hK _ _ trivial (by simp only[au,if_true];exact⟨h1,h2⟩) (λ_ _=>rfl)
   refine aj.cons (λρ L W hR hI hL hD hO hF K hK=>?_) ?_
   ·have f5:=ag hF (j:=5) (by decide);clear hF hD hO hR;simp only[Act.put,aq,al,ar]at hK |-;have e5:ρ 5=UP (!St.aV ah.length tx.length cuts.length false):=f5;rw[e5]at hK |-;go_simp;go_at_call 200;refine(j8 _ _).mono ?_;rintro e W2 ⟨rfl,rfl⟩;exact hK _ _ trivial (by simpa[au]using hI) (λ_ _=>rfl)
   refine aj.cons (λρ L W hR hI hL hD hO hF K hK=>?_) ?_
   ·have f6:=ag hF (j:=6) (by decide);clear hF hD hO hR;simp only[Act.put,aq,al,ar]at hK |-;have e6:ρ 6=UM US (ic (!St.aV ah.length tx.length cuts.length false)):=f6;rw[e6]at hK |-;go_simp;refine hK _ _ trivial (by simpa[au]using hI) (λ_ _=>rfl)
   exact aj.nil
  intro ρ L W hR hI hL hF;obtain⟨_,_,_,_,_,_,_,g7,_⟩:=hF;have g7:ρ 7=UM US (ic (!St.aV ah.length tx.length cuts.length false)):=g7;rw[g7];clear g7 hR;rw[if_pos (hL 5 (by decide))]at hI;obtain⟨eF,hbl⟩:=hI;have cZ:=aa (Below.trans Gb.out (Below.trans ((Below.refl B W9).drew) hbl));have ie:=aa eF;clear eF hbl hL;cases hfu:St.aV ah.length tx.length cuts.length false
  ·have ck:=aa hfu;clear hfu;go_wp2;go_ret;exact xv HST.out (by decide) ck.out cZ.out (ie.out ck.out)
  have ck:=aa hfu;clear hfu;go_wp2;go_ret;exact xq HST.out (by decide) ck.out cZ.out
end
section
def mK(mo:Mo)(w:UY)(B b:Nat)(ah:List St.It)(tx:List UInt8)(cuts:List Nat)(l:List UInt8)(off:Nat)(e:Ending)(w':UY):Prop:=
 Below B w w'/\match St.bS l with
  | none=>∃m:Int,e=UU (UR #[UM US m,UM US 2])
  | some (k,t,n)=>match St.stepT mo.op mo.c k t with
   | none=>∃m:Int,e=UU (UR #[UM US m,UM US 7])
   | some (i,b7,c')=>if 512<(St.aP (ah++St.b8 tx) (k,t,i)).length\/1024<=cuts.length then ∃m:Int,e=UU (UR #[UM US m,UM US 3])else
    e=UU (UR #[UM US n,UM US 0])/\∃v' ft jm,bY ⟨v',b7,c'⟩ w' B b ft jm (cuts++[off])/\St.fu ft/\ft++St.b8 jm=St.aP (ah++St.b8 tx) (k,t,i)/\jm.length<=cuts.length+1
section
variable {mo:Mo} {w:UY} {B b:Nat} {ah:List St.It} {tx:List UInt8} {cuts:List Nat} {l:List UInt8} {off:Nat} {w':UY} {n:Nat} {c:UInt8} {t:List UInt8} {m:Int}
theorem qm(h:St.bS l=none)(hb:Below B w w'):mK mo w B b ah tx cuts l off (UU (UR #[UM US m,UM US 2])) w':=by
 refine⟨hb,?_⟩;rw[h];exact⟨m,rfl⟩
theorem Bv(h:St.bS l=some (1,[c],n))(hN:St.fu ah)(hf:St.aV ah.length tx.length cuts.length true=true)(hb:Below B w w'):mK mo w B b ah tx cuts l off (UU (UR #[UM US m,UM US 3])) w':=by
 refine⟨hb,?_⟩;rw[h];simp only[St.stepT];rw[if_neg (by decide),if_neg (by decide),if_neg (by decide)];simp only;rw[if_pos ((St.lf hN c cuts.length).2 hf)];exact⟨m,rfl⟩
theorem Bu(h:St.bS l=some (1,[c],n))(hN:St.fu ah)(hf:St.aV ah.length tx.length cuts.length true=false)(hb:Below B w w')
  (hB:bY mo w' B b ah (tx++[c]) (cuts++[off])) (ht:tx.length<=cuts.length) (hm:m=(n:Int)):mK mo w B b ah tx cuts l off (UU (UR #[UM US m,UM US 0])) w':=by
 refine⟨hb,?_⟩;rw[h];simp only[St.stepT];rw[if_neg (by decide),if_neg (by decide),if_neg (by decide)];simp only;rw[if_neg (λh2=>by rw[(St.lf hN c cuts.length).1 h2]at hf;cases hf),hm];exact⟨rfl,mo.v,ah,tx++[c],hB,hN,(St.qD hN c).symm,by simp;omega⟩
theorem Ih(h:St.bS l=some (5,t,n))(hf:St.aV ah.length tx.length cuts.length false=true)(hb:Below B w w'):mK mo w B b ah tx cuts l off (UU (UR #[UM US m,UM US 3])) w':=by
 refine⟨hb,?_⟩;rw[h];simp only[St.stepT];rw[if_neg (by decide),if_neg (by decide),if_neg (by decide)];simp only;rw[if_pos ((St.jI 5 t cuts.length (by decide)).2 hf)];exact⟨m,rfl⟩
theorem Ki(h:St.bS l=some (5,t,n))(hf:St.aV ah.length tx.length cuts.length false=false)(hb:Below B w w')
  (hB:bY mo w' B b (ah++St.b8 tx++[(5,t,0)]) [] (cuts++[off])) (hm:m=(n:Int)):mK mo w B b ah tx cuts l off (UU (UR #[UM US m,UM US 0])) w':=by
 refine⟨hb,?_⟩;rw[h];simp only[St.stepT];rw[if_neg (by decide),if_neg (by decide),if_neg (by decide)];simp only;rw[if_neg (λh2=>by rw[(St.jI 5 t cuts.length (by decide)).1 h2]at hf;cases hf),hm];exact⟨rfl,mo.v,_,[],hB,St.lS _ 5 t 0 (by decide),by rw[St.qE 5 t (by decide)];simp[St.b8],by simp⟩
theorem MA{w2:UY}{k:Int}{e:Ending}(h:St.bS l=some (k,t,n))(hk:k=2\/k=3\/k=4)(hm:m=(n:Int))(hw:Below B w w2)(ht:vd mo w2 B b ah tx cuts k t off e w'):∃er:Int,e=UU (UM US er)/\mK mo w B b ah tx cuts l off (UU (UR #[UM US m,UM US er])) w':=by
 obtain⟨hb,hq⟩:=ht;have hk1:k≠1:=by omega
 unfold mK;rw[h];simp only;cases hs:St.stepT mo.op mo.c k t with
 | none=>rw[hs]at hq;exact⟨7,hq,hw.trans hb,m,rfl⟩
 | some y=>
  obtain⟨i,b7,c'⟩:=y;rw[hs]at hq;simp only at hq |-
  split at hq
  ·rename_i hf
   exact⟨3,hq,hw.trans hb,by rw[if_pos hf];exact⟨m,rfl⟩⟩
  rename_i hf
  obtain⟨he,v',hB⟩:=hq;refine⟨0,he,hw.trans hb,?_⟩;rw[if_neg hf];refine⟨by rw[hm],v',_,[],hB,St.lS _ k t i hk1,?_,by simp⟩;unfold St.aP;rw[if_neg hk1];simp[St.b8]
end
theorem ku(mo:Mo)(w:UY)(B b:Nat)(ah:List St.It)(tx:List UInt8)(cuts:List Nat)(raw:ByteArray)(a:Nat)(h:bY mo w B b ah tx cuts)(hN:St.fu ah)(h1:ah.length<=512)(h2:cuts.length<=1024)(h3:tx.length<=cuts.length)(h4:mo.op.length<=2000)(h5:mo.c<=2000)(h6:bc mo.op<=4611686018427387904)(hBw:B<=w.1.size)
  (ha:a<raw.size) (hr:raw.size<=4611686018427387904) :
  Calls Tryz.prog 172 #[UQ (some ⟨b,0,none⟩),UN raw,UM US a] w (mK mo w B b ah tx cuts (raw.1.1.drop a) a):=by
 obtain⟨s,hE⟩:∃s,raw.extract a raw.size=s:=⟨_,rfl⟩;have hsz:s.size=raw.size-a:=by rw[<-hE];simp
 have hs0:0<s.size:=by omega
 have hl:s.1.1=raw.1.1.drop a:=by rw[<-hE];simp;exact List.take_of_length_le (by simp)
 rw[<-hl];have hcr:s.1.1=s[0] :: s.1.1.drop 1:=St.fo s hs0;have ha1:(a:Int)<=raw.size:=by omega
 have ha2:¬raw.size<a:=by omega
 have hN':=aa hN;obtain⟨v0,v1,v2,hv⟩:=h;have hbl:=hv.2.1;have hblt:b<w.1.size:=ae hbl;have H:Hid (bY mo w B b ah tx cuts):=aa ⟨v0,v1,v2,hv⟩;have Ti:s.size<=4611686018427387904:=by omega
 clear hl hv hbl hsz hN
 by_cases gJ:s[0].toNat=60
 ·have hsl:=St.nS (r:=s.1.1.drop 1) gJ;rw[<-hcr]at hsl;have NL:((s[0].toNat:Int)==60)=true:=by simp;omega
  have dK:=aa (BA s w Ti hs0 gJ);unfold St.sI at hsl;clear hcr gJ;cases hq:St.fR s.1.1 with
  | none=>
   rw[hq]at hsl dK;have bA:=aa hsl;clear hsl hq;go_enter Tryz.func172,Tryz.ntmps172;go_wp2_with fail;refine dK.out.mono ?_;rintro e w2 ⟨hu,k,x,m,rfl⟩;have HU:=aa hu;clear hu dK;go_wp2;go_ret2;exact qm bA.out (Below.ai (Below.refl _ _) hBw (HU.out.alloc _))
  | some q=>
   obtain⟨k,t,n⟩:=q;rw[hq]at hsl dK;simp only at hsl;have hkk:=(St.kh hq).1
   have htl:t.length<=4611686018427387904:=by
    have:=St.kh hq
    rw[St.aC]at this;omega
   have bl:=aa (λW=>pj t W htl);cases hb:St.bu (St.nameOf t)
   ·rw[hb]at hsl;simp only[Bool.false_eq_true,if_false]at hsl;have tK:=aa (λW=>lQ ⟨(St.nameOf t).toArray⟩ W);rw[show St.bu (⟨(St.nameOf t).toArray⟩:ByteArray).1.1=false from hb]at tK;have bA:=aa hsl;obtain⟨tb,fF⟩:∃tb:ByteArray,(⟨t.toArray⟩:ByteArray)=tb:=⟨_,rfl⟩;obtain⟨nb,hnb⟩:∃nb:ByteArray,(⟨(St.nameOf t).toArray⟩:ByteArray)=nb:=⟨_,rfl⟩;have gm:tb.1.1=t:=by rw[<-fF]
    have RZ:tb.size<=4611686018427387904:=by rw[<-St.aC,gm];exact htl
    have SH:=aa (show ∀W',vc (some (k,t,n)) w (UU (UR #[.agg #[UM US k,UN tb,UM US 0],UM US n,UP true])) W'->ac w W' from λW' h=>h.1);rw[fF,hnb]at bl;rw[hnb]at tK;clear hsl hq hb hnb;go_enter Tryz.func172,Tryz.ntmps172;go_wp2_with fail;refine dK.out.mono ?_;rintro e w2 ⟨hu,he⟩;simp only at he;rw[fF]at he;subst he;have HU:=aa hu;clear hu dK SH;go_wp2_with fail;refine(bl.out _).mono ?_;rintro e w3 ⟨rfl,hu3⟩;have bm:=aa (HU.out.trans (ac.trans (uZ) hu3));have dL:=(hu3.below.block w2.1.size (by simp)).trans (aR w2 (UT #[UM US k,UN tb,UM US 0] 36) w2.1.size rfl);have x0:w3.cell? ⟨w2.1.size,0,none⟩=some (UM US k):=ak dL 0;have x1:w3.cell? ⟨w2.1.size,1,none⟩=some (UN tb):=ak dL 1;have x2:w3.cell? ⟨w2.1.size,2,none⟩=some (UM US 0):=ak dL 2;haveI:af w2.1.size w3:=af.of (ae dL);clear hu3 dL HU;go_wp2_with fail;refine(tK.out _).mono ?_;rintro e w4 ⟨rfl,rfl⟩;have cV:=F0 mo w3 B b ah tx cuts k tb a (H.out.ai bm.out) (by omega) h1 h2 h3 h4 h5 h6 (Nat.le_trans hBw bm.out.size) RZ;rw[gm]at cV;have Rw:=aa cV;clear cV;go_wp2_with fail;refine Rw.out.mono ?_;intro e w5 hte;obtain⟨er,rfl,hend⟩:=MA (w:=w) (m:=(n:Int)) bA.out (by omega) rfl (Below.ai (Below.refl _ _) hBw bm.out) hte;have Rf:=aa hend;clear hend hte x0 x1 x2;go_wp2;go_ret2;exact Rf.out
   rw[hb]at hsl;simp only[if_true]at hsl;have tK:=aa (λW=>lQ ⟨(St.nameOf t).toArray⟩ W);rw[show St.bu (⟨(St.nameOf t).toArray⟩:ByteArray).1.1=true from hb]at tK;have bA:=aa hsl;obtain⟨tb,fF⟩:∃tb:ByteArray,(⟨t.toArray⟩:ByteArray)=tb:=⟨_,rfl⟩;obtain⟨nb,hnb⟩:∃nb:ByteArray,(⟨(St.nameOf t).toArray⟩:ByteArray)=nb:=⟨_,rfl⟩;rw[fF,hnb]at bl;rw[hnb]at tK;clear hsl hq hb hnb;go_enter Tryz.func172,Tryz.ntmps172;go_wp2_with fail;refine dK.out.mono ?_;rintro e w2 ⟨hu,he⟩;simp only at he;rw[fF]at he;subst he;have HU:=aa hu;clear hu dK;go_wp2_with fail;refine(bl.out _).mono ?_;rintro e w3 ⟨rfl,hu3⟩;have bm:=aa (HU.out.trans (ac.trans (uZ) hu3));clear hu3 HU;go_wp2_with fail;refine(tK.out _).mono ?_;rintro e w4 ⟨rfl,rfl⟩;go_wp2;go_ret2;exact qm bA.out (Below.ai (Below.refl _ _) hBw bm.out)
 have NL:((s[0].toNat:Int)==60)=false:=by simp;omega
 by_cases p7:s[0].toNat=38
 ·have hsl:=St.iG (r:=s.1.1.drop 1) p7;rw[<-hcr]at hsl;have e38:((s[0].toNat:Int)==38)=true:=by simp;omega
  have C4:=aa (λW=>Kk s W (by omega));clear hcr p7 gJ;unfold FG at C4;cases hq:St.rp s.1.1 with
  | none=>
   rw[hq]at hsl C4;have bA:=aa hsl;clear hsl hq;go_enter Tryz.func172,Tryz.ntmps172;go_wp2_with fail;refine(C4.out _).mono ?_;rintro e w2 ⟨rfl,rfl⟩;go_wp2;go_ret2;exact qm bA.out (Below.refl _ _)
  | some q=>
   obtain⟨k,t,n⟩:=q;obtain⟨rfl,_,_,ht1⟩:=St.xh hq
   obtain⟨c,rfl⟩:∃c,t=[c]:=by
    match t,ht1 with
    | [c],_=>exact⟨c,rfl⟩
   rw[hq]at hsl C4;have bA:=aa hsl;have Rt:Hid (∀W,Calls Tryz.prog 199 #[UN s] W λe w'=>e=UU (UR #[UM .u8 (c.toNat:Int),UM US n,UP true])/\W=w'):=C4;have zS:=aa (n5 w B b ah tx cuts c a H.out (by omega) (by omega) (by omega) hBw);clear hsl hq C4;go_enter Tryz.func172,Tryz.ntmps172;go_wp2_with fail;refine(Rt.out _).mono ?_;rintro e w2 ⟨rfl,rfl⟩;go_wp2_with fail;refine zS.out.mono ?_;rintro e w2 ⟨rfl,eF,hbl⟩;have ie:=aa eF;have cZ:=aa hbl;clear eF hbl;go_wp2_with fail;refine(j8 _ _).mono ?_;rintro e w3 ⟨rfl,rfl⟩;cases hfu:St.aV ah.length tx.length cuts.length true
   ·have ck:=aa hfu;clear hfu;go_wp2;go_ret2;exact Bu bA.out hN'.out ck.out cZ.out (ie.out ck.out) h3 rfl
   have ck:=aa hfu;clear hfu;go_wp2;go_ret2;exact Bv bA.out hN'.out ck.out cZ.out
 have e38:((s[0].toNat:Int)==38)=false:=by simp;omega
 by_cases db:s[0].toNat=123
 ·have hsl:=St.kS (r:=s.1.1.drop 1) db;rw[<-hcr]at hsl;have sj:((s[0].toNat:Int)==123)=true:=by simp;omega
  have bM:=λW=>Tryz.strings_IndexByte s 125 W
  have lD:(125:Int).toNat.toUInt8=125:=rfl;rw[lD,hcr]at bM;rcases St.qw (r:=s.1.1.drop 1) db with⟨hi,hs⟩|⟨n,hi,hn,eR,hs⟩
  ·rw[hi]at bM;rw[<-hcr]at hs;rw[hs]at hsl;have bA:=aa hsl;have dS:=aa bM;clear hsl hcr bM hi hs lD gJ p7 db;go_enter Tryz.func172,Tryz.ntmps172;go_wp2_with fail;refine(dS.out _).mono ?_;rintro e w1 ⟨rfl,hw1⟩;obtain rfl:w=w1:=hw1.symm;clear hw1;go_wp2;go_ret2;exact qm bA.out (Below.refl _ _)
  rw[hi]at bM;have hns:n+1<s.size:=by rw[<-hcr]at hn;simpa using hn
  obtain⟨x,hX⟩:∃x,s.extract 1 (n+1)=x:=⟨_,rfl⟩;have hxl:x.1.1=(s.1.1.drop 1).take n:=by rw[<-hX];simp
  have hxs:x.size<=s.size:=by rw[<-hX];simp;omega
  have R4:x.1.1.length=n:=by rw[hxl];simp;omega
  have a8:=λW=>j7 x W (by omega)
  rw[<-hcr,<-hxl]at hs;have z1:(1:Int)<=(n:Int)+1:=by omega
  have z2:(n:Int)+1<=s.size:=by omega
  have z3:¬(n:Int)+1<0:=by omega
  rw[show(((n+1:Nat):Int))=(n:Int)+1 by omega]at bM;cases hnb:St.aB x.1.1
  ·rw[hnb]at hs a8;simp only[Bool.false_eq_true,if_false]at hs;rw[hs]at hsl;have bA:=aa hsl;have dS:=aa bM;have bl:=aa a8;clear hsl hcr bM hi hs lD hn eR a8 hnb hxl R4 gJ p7 db;go_enter Tryz.func172,Tryz.ntmps172;go_wp2_with fail;refine(dS.out _).mono ?_;rintro e w1 ⟨rfl,hw1⟩;obtain rfl:w=w1:=hw1.symm;clear hw1;go_wp2_with fail;refine(bl.out _).mono ?_;rintro e w' ⟨rfl,rfl⟩;go_wp2;go_ret2;exact qm bA.out (Below.refl _ _)
  rw[hnb]at hs a8;simp only[if_true]at hs;rw[hs]at hsl;simp only[Option.map_some]at hsl;have bA:=aa hsl;have dS:=aa bM;have bl:=aa a8;have hw2:IntKind.i64.wrap ((n:Int)+1+1)=(n:Int)+1+1:=IntWalk.i64_in _ (by omega);have HIT:=aa (kO w.drew B b ah tx cuts 5 0 x a (H.out.ai ((ac.refl w).drew)) (by omega) (by omega) (by omega) hBw);clear hsl hcr bM hi hs lD hn eR a8 hnb hxl gJ p7 db;go_enter Tryz.func172,Tryz.ntmps172;go_wp2_with fail;refine(dS.out _).mono ?_;rintro e w1 ⟨rfl,hw1⟩;obtain rfl:w=w1:=hw1.symm;clear hw1;go_wp2_with fail;refine(bl.out _).mono ?_;rintro e w' ⟨rfl,rfl⟩;go_wp2_with fail;refine bz (λ_ _=>True) (λL W=>if L 10=true then(St.aV ah.length tx.length cuts.length false=false->bY mo W B b (ah++St.b8 tx++[(5,x.1.1,0)]) [] (cuts++[a]))/\Below B w.drew W else W=w.drew) ([λv _=>v=UM US ((n:Int)+1),λv _=>v=UM US ((n:Int)+1+1),λv _=>v=UQ (some ⟨b,0,none⟩),λv _=>v=UQ (some ⟨b,0,none⟩),λv _=>v=UQ (some ⟨b,0,none⟩),λv _=>v=UN s,λv _=>v=UM US ((n:Int)+1),λv _=>v=UN x,λv _=>v=.agg #[UM US 5,UN x,UM US 0],λv _=>v=UM US (a:Int),λv _=>v=UP (!St.aV ah.length tx.length cuts.length false),λv _=>v=UM US (ic (!St.aV ah.length tx.length cuts.length false)),λv _=>v=UM US ((n:Int)+1+1),λv _=>v=UM US (ic (!St.aV ah.length tx.length cuts.length false))]) (λ_=>trivial) (λ_ _ _ _ _=>trivial) (by kernel_rfl) (by rfl) (by kernel_rfl) (by kernel_rfl) ?_ ?_ ?_ ?_ ?_;rotate_left 1
  ·intro ρ;simp only[ch,Act.put,aq,al,ar,Nat.zero_add,Nat.reduceAdd];exact rfl
  ·simp
  ·refine aj.cons (λρ L W hR hI hL hD hO hF K hK=>?_) ?_
   ·clear hF hD hO hR;simp only[Act.put,aq,al,ar]at hK |-;go_simp;refine hK _ _ trivial (by simpa[au]using hI) (λ_ _=>rfl)
   refine aj.cons (λρ L W hR hI hL hD hO hF K hK=>?_) ?_
   ·have f0:=ag hF (j:=0) (by decide);clear hF hD hO hR;simp only[Act.put,aq,al,ar]at hK |-;have e0:ρ 0=UM US ((n:Int)+1):=f0;rw[e0]at hK |-;go_simp;refine hK _ _ trivial (by simpa[au]using hI) (λ_ _=>rfl)
   refine aj.cons (λρ L W hR hI hL hD hO hF K hK=>?_) ?_
   ·clear hF hD hO hR;simp only[Act.put,aq,al,ar]at hK |-;go_simp;refine hK _ _ trivial (by simpa[au]using hI) (λ_ _=>rfl)
   refine aj.cons (λρ L W hR hI hL hD hO hF K hK=>?_) ?_
   ·have f2:=ag hF (j:=2) (by decide);clear hF hD hO hR;simp only[Act.put,aq,al,ar]at hK |-;have e2:ρ 2=UQ (some ⟨b,0,none⟩):=f2;rw[e2]at hK |-;go_simp;refine hK _ _ trivial (by simpa[au]using hI) (λ_ _=>rfl)
   refine aj.cons (λρ L W hR hI hL hD hO hF K hK=>?_) ?_
   ·have f3:=ag hF (j:=3) (by decide);clear hF hD hO hR;simp only[Act.put,aq,al,ar]at hK |-;have e3:ρ 3=UQ (some ⟨b,0,none⟩):=f3;rw[e3]at hK |-;go_simp;refine hK _ _ trivial (by simpa[au]using hI) (λ_ _=>rfl)
   refine aj.cons (λρ L W hR hI hL hD hO hF K hK=>?_) ?_
   ·clear hF hD hO hR;simp only[Act.put,aq,al,ar]at hK |-;go_simp;refine hK _ _ trivial (by simpa[au]using hI) (λ_ _=>rfl)
   refine aj.cons (λρ L W hR hI hL hD hO hF K hK=>?_) ?_
   ·clear hF hD hO hR;simp only[Act.put,aq,al,ar]at hK |-;go_simp;refine hK _ _ trivial (by simpa[au]using hI) (λ_ _=>rfl)
   refine aj.cons (λρ L W hR hI hL hD hO hF K hK=>?_) ?_
   ·have f5:=ag hF (j:=5) (by decide);have f6:=ag hF (j:=6) (by decide);clear hF hD hO hR;simp only[Act.put,aq,al,ar]at hK |-;have e5:ρ 5=UN s:=f5;have e6:ρ 6=UM US ((n:Int)+1):=f6;rw[e5,e6]at hK |-;go_simp;refine hK _ _ trivial (by simpa[au]using hI) (λ_ _=>rfl)
   refine aj.cons (λρ L W hR hI hL hD hO hF K hK=>?_) ?_
   ·have f7:=ag hF (j:=7) (by decide);clear hF hD hO hR;simp only[Act.put,aq,al,ar]at hK |-;have e7:ρ 7=UN x:=f7;rw[e7]at hK |-;go_simp;refine hK _ _ trivial (by simpa[au]using hI) (λ_ _=>rfl)
   refine aj.cons (λρ L W hR hI hL hD hO hF K hK=>?_) ?_
   ·clear hF hD hO hR;simp only[Act.put,aq,al,ar]at hK |-;go_simp;refine hK _ _ trivial (by simpa[au]using hI) (λ_ _=>rfl)
   refine aj.cons (λρ L W hR hI hL hD hO hF K hK=>?_) ?_
   ·have f4:=ag hF (j:=4) (by decide);have f8:=ag hF (j:=8) (by decide);have f9:=ag hF (j:=9) (by decide);rw[if_neg (by rw[hL];decide)]at hI;subst hI;clear hF hD hO hR;simp only[Act.put,aq,al,ar]at hK |-;have e4:ρ 4=UQ (some ⟨b,0,none⟩):=f4;have e8:ρ 8=.agg #[UM US 5,UN x,UM US 0]:=f8;have e9:ρ 9=UM US (a:Int):=f9;rw[e4,e8,e9]at hK |-;go_simp;go_at_call 164;refine HIT.out.mono ?_;rintro e W2 ⟨rfl,h1,h2⟩;exact hK _ _ trivial (by simp only[au,if_true];exact⟨h1,h2⟩) (λ_ _=>rfl)
   refine aj.cons (λρ L W hR hI hL hD hO hF K hK=>?_) ?_
   ·have f10:=ag hF (j:=10) (by decide);clear hF hD hO hR;simp only[Act.put,aq,al,ar]at hK |-;have e10:ρ 10=UP (!St.aV ah.length tx.length cuts.length false):=f10;rw[e10]at hK |-;go_simp;go_at_call 200;refine(j8 _ _).mono ?_;rintro e W2 ⟨rfl,rfl⟩;exact hK _ _ trivial (by simpa[au]using hI) (λ_ _=>rfl)
   refine aj.cons (λρ L W hR hI hL hD hO hF K hK=>?_) ?_
   ·have f1:=ag hF (j:=1) (by decide);clear hF hD hO hR;simp only[Act.put,aq,al,ar]at hK |-;have e1:ρ 1=UM US ((n:Int)+1+1):=f1;rw[e1]at hK |-;go_simp;refine hK _ _ trivial (by simpa[au]using hI) (λ_ _=>rfl)
   refine aj.cons (λρ L W hR hI hL hD hO hF K hK=>?_) ?_
   ·have f11:=ag hF (j:=11) (by decide);clear hF hD hO hR;simp only[Act.put,aq,al,ar]at hK |-;have e11:ρ 11=UM US (ic (!St.aV ah.length tx.length cuts.length false)):=f11;rw[e11]at hK |-;go_simp;refine hK _ _ trivial (by simpa[au]using hI) (λ_ _=>rfl)
   exact aj.nil
  intro ρ L W hR hI hL hF;obtain⟨_,_,_,_,_,_,_,_,_,_,_,_,g12,g13,_⟩:=hF;have g12:ρ 12=UM US ((n:Int)+1+1):=g12;have g13:ρ 13=UM US (ic (!St.aV ah.length tx.length cuts.length false)):=g13;rw[g12,g13];clear g12 g13 hR;rw[if_pos (hL 10 (by decide))]at hI;obtain⟨eF,hbl⟩:=hI;have cZ:=aa (Below.trans ((Below.refl B w).drew) hbl);have ie:=aa eF;clear eF hbl hL;cases hfu:St.aV ah.length tx.length cuts.length false
  ·have ck:=aa hfu;clear hfu;go_wp2;go_ret2;exact Ki bA.out ck.out cZ.out (ie.out ck.out) (by omega)
  have ck:=aa hfu;clear hfu;go_wp2;go_ret2;exact Ih bA.out ck.out cZ.out
 have sj:((s[0].toNat:Int)==123)=false:=by simp;omega
 have hsl:=St.jO (r:=s.1.1.drop 1) gJ p7 db;rw[<-hcr]at hsl;have bA:=aa hsl;have zS:=aa (n5 w.drew B b ah tx cuts s[0] a (H.out.ai ((ac.refl w).drew)) (by omega) (by omega) (by omega) hBw);clear hsl hcr gJ p7 db;go_enter Tryz.func172,Tryz.ntmps172;go_wp2_with fail;refine bz (λ_ _=>True) (λL W=>if L 6=true then(St.aV ah.length tx.length cuts.length true=false->bY mo W B b ah (tx++[s[0]]) (cuts++[a]))/\Below B w.drew W else W=w.drew) ([λv _=>v=UQ (some ⟨b,0,none⟩),λv _=>v=UQ (some ⟨b,0,none⟩),λv _=>v=UQ (some ⟨b,0,none⟩),λv _=>v=UN s,λv _=>v=UM .u8 (s[0].toNat:Int),λv _=>v=UM US (a:Int),λv _=>v=UP (!St.aV ah.length tx.length cuts.length true),λv _=>v=UM US (ic (!St.aV ah.length tx.length cuts.length true)),λv _=>v=UM US 1,λv _=>v=UM US (ic (!St.aV ah.length tx.length cuts.length true))]) (λ_=>trivial) (λ_ _ _ _ _=>trivial) (by kernel_rfl) (by rfl) (by kernel_rfl) (by kernel_rfl) ?_ ?_ ?_ ?_ ?_;rotate_left 1
 ·intro ρ;simp only[ch,Act.put,aq,al,ar,Nat.zero_add,Nat.reduceAdd];exact rfl
 ·simp
 ·refine aj.cons (λρ L W hR hI hL hD hO hF K hK=>?_) ?_
  ·clear hF hD hO hR;simp only[Act.put,aq,al,ar]at hK |-;go_simp;refine hK _ _ trivial (by simpa[au]using hI) (λ_ _=>rfl)
  refine aj.cons (λρ L W hR hI hL hD hO hF K hK=>?_) ?_
  ·have f0:=ag hF (j:=0) (by decide);clear hF hD hO hR;simp only[Act.put,aq,al,ar]at hK |-;have e0:ρ 0=UQ (some ⟨b,0,none⟩):=f0;rw[e0]at hK |-;go_simp;refine hK _ _ trivial (by simpa[au]using hI) (λ_ _=>rfl)
  refine aj.cons (λρ L W hR hI hL hD hO hF K hK=>?_) ?_
  ·have f1:=ag hF (j:=1) (by decide);clear hF hD hO hR;simp only[Act.put,aq,al,ar]at hK |-;have e1:ρ 1=UQ (some ⟨b,0,none⟩):=f1;rw[e1]at hK |-;go_simp;refine hK _ _ trivial (by simpa[au]using hI) (λ_ _=>rfl)
  refine aj.cons (λρ L W hR hI hL hD hO hF K hK=>?_) ?_
  ·clear hF hD hO hR;simp only[Act.put,aq,al,ar]at hK |-;go_simp;refine hK _ _ trivial (by simpa[au]using hI) (λ_ _=>rfl)
  refine aj.cons (λρ L W hR hI hL hD hO hF K hK=>?_) ?_
  ·have f3:=ag hF (j:=3) (by decide);clear hF hD hO hR;simp only[Act.put,aq,al,ar]at hK |-;have e3:ρ 3=UN s:=f3;rw[e3]at hK |-;go_simp;refine hK _ _ trivial (by simpa[au]using hI) (λ_ _=>rfl)
  refine aj.cons (λρ L W hR hI hL hD hO hF K hK=>?_) ?_
  ·clear hF hD hO hR;simp only[Act.put,aq,al,ar]at hK |-;go_simp;refine hK _ _ trivial (by simpa[au]using hI) (λ_ _=>rfl)
  refine aj.cons (λρ L W hR hI hL hD hO hF K hK=>?_) ?_
  ·have f2:=ag hF (j:=2) (by decide);have f4:=ag hF (j:=4) (by decide);have f5:=ag hF (j:=5) (by decide);rw[if_neg (by rw[hL];decide)]at hI;subst hI;clear hF hD hO hR;simp only[Act.put,aq,al,ar]at hK |-;have e2:ρ 2=UQ (some ⟨b,0,none⟩):=f2;have e4:ρ 4=UM .u8 (s[0].toNat:Int):=f4;have e5:ρ 5=UM US (a:Int):=f5;rw[e2,e4,e5]at hK |-;go_simp;go_at_call 162;refine zS.out.mono ?_;rintro e W2 ⟨rfl,h1,h2⟩;exact hK _ _ trivial (by simp only[au,if_true];exact⟨h1,h2⟩) (λ_ _=>rfl)
  refine aj.cons (λρ L W hR hI hL hD hO hF K hK=>?_) ?_
  ·have f6:=ag hF (j:=6) (by decide);clear hF hD hO hR;simp only[Act.put,aq,al,ar]at hK |-;have e6:ρ 6=UP (!St.aV ah.length tx.length cuts.length true):=f6;rw[e6]at hK |-;go_simp;go_at_call 200;refine(j8 _ _).mono ?_;rintro e W2 ⟨rfl,rfl⟩;exact hK _ _ trivial (by simpa[au]using hI) (λ_ _=>rfl)
  refine aj.cons (λρ L W hR hI hL hD hO hF K hK=>?_) ?_
  ·clear hF hD hO hR;simp only[Act.put,aq,al,ar]at hK |-;go_simp;refine hK _ _ trivial (by simpa[au]using hI) (λ_ _=>rfl)
  refine aj.cons (λρ L W hR hI hL hD hO hF K hK=>?_) ?_
  ·have f7:=ag hF (j:=7) (by decide);clear hF hD hO hR;simp only[Act.put,aq,al,ar]at hK |-;have e7:ρ 7=UM US (ic (!St.aV ah.length tx.length cuts.length true)):=f7;rw[e7]at hK |-;go_simp;refine hK _ _ trivial (by simpa[au]using hI) (λ_ _=>rfl)
  exact aj.nil
 intro ρ L W hR hI hL hF;obtain⟨_,_,_,_,_,_,_,_,g8,g9,_⟩:=hF;have g8:ρ 8=UM US 1:=g8;have g9:ρ 9=UM US (ic (!St.aV ah.length tx.length cuts.length true)):=g9;rw[g8,g9];clear g8 g9 hR;rw[if_pos (hL 6 (by decide))]at hI;obtain⟨eF,hbl⟩:=hI;have cZ:=aa (Below.trans ((Below.refl B w).drew) hbl);have ie:=aa eF;clear eF hbl hL;cases hfu:St.aV ah.length tx.length cuts.length true
 ·have ck:=aa hfu;clear hfu;go_wp2;go_ret2;exact Bu bA.out hN'.out ck.out cZ.out (ie.out ck.out) h3 rfl
 have ck:=aa hfu;clear hfu;go_wp2;go_ret2;exact Bv bA.out hN'.out ck.out cZ.out
end
section
def lR(raw:ByteArray):St.gg:=St.dl St.bS raw.size raw.1.1 0 0 [] [] [] 0
def pY(raw:ByteArray)(w:UY)(e:Ending)(w':UY):Prop:=
 ac w w'/\((∃mo ah tx cuts,e=UU (UR #[UQ (some ⟨w.1.size,0,none⟩),UM US 0,UM US 0])/\bY mo w' w.1.size w.1.size ah tx cuts/\ah.length<=512/\cuts.length<=1024/\tx.length<=cuts.length/\lR raw=(ah++St.b8 tx,cuts++[raw.size],0,0))\/
  ∃(a:Nat) (er:Int),er≠0/\e=UU (UR #[UQ none,UM US a,UM US er])/\lR raw=([],[],a,er))
def PB(w:UY)(raw:ByteArray)(s6:Value)(wr:UY):Prop:=
 ∃(a:Nat) (mo:Mo) (ah:List St.It) (tx:List UInt8) (cuts:List Nat) (fuel:Nat),s6=UM US a/\a<=raw.size/\raw.size-a<=fuel/\bY mo wr w.1.size w.1.size ah tx cuts/\St.fu ah/\ah.length<=512/\cuts.length<=1024/\tx.length<=cuts.length /\
  mo.op.length<=cuts.length/\mo.c<=cuts.length/\bc mo.op<=a/\lR raw=St.dl St.bS fuel (raw.1.1.drop a) a a (ah++St.b8 tx) cuts mo.op mo.c/\ac w wr
theorem bY.fresh(w:UY):bY ⟨UO none 0 0,[],0⟩ (w.alloc (UT #[UO none 0 0,UO none 0 0,UO none 0 0,UO none 0 0,UM US 0] 180)) w.1.size w.1.size [] [] []:=
 ⟨_,_,_,Nat.le_refl _,heap_alloc_new w _,World.ownsRow_nil _ _ _ _,World.ownsRow_nil _ _ _ _,World.ownsRow_nil _ _ _ _,World.ownsRow_nil _ _ _ _,.inl rfl⟩
theorem M5{op b7:List St.It}{c c':Nat}{k i:Int}{t:List UInt8}(h:St.stepT op c k t=some (i,b7,c')):b7.length<=op.length+1/\c'<=c+1/\bc b7<=bc op+t.length:=by
 unfold St.stepT at h
 split at h
 ·cases hg:op.getLast? with
  | none=>rw[hg]at h;cases h
  | some o=>
   rw[hg]at h;simp only at h
   split at h
   ·simp only[Option.some.injEq,Prod.mk.injEq]at h;obtain⟨_,rfl,rfl⟩:=h;refine⟨by simp;omega,by omega,?_⟩;have:=fS op (op.length-1)
    rw[<-List.dropLast_eq_take]at this;omega
   cases h
 split at h
 ·simp only[Option.some.injEq,Prod.mk.injEq]at h;obtain⟨_,rfl,rfl⟩:=h;exact⟨by simp,by omega,by rw[cR];simp⟩
 split at h
 ·simp only[Option.some.injEq,Prod.mk.injEq]at h;obtain⟨_,rfl,rfl⟩:=h;exact⟨by omega,by omega,by omega⟩
 simp only[Option.some.injEq,Prod.mk.injEq]at h;obtain⟨_,rfl,rfl⟩:=h;exact⟨by omega,by omega,by omega⟩
theorem jT(raw:ByteArray)(w:UY)(hr:raw.size<=4611686018427387904):Calls Tryz.prog 126 #[UN raw] w (pY raw w):=by
 have nu:=aa (bY.fresh w);go_enter Tryz.func126,Tryz.ntmps126;go_wp2;go_loopw [6] (λs6 wr=>PB w raw s6 wr) (λs6 _=>raw.size+1-(intOf s6).toNat)
 case atStart=>exact⟨0,_,[],[],[],raw.size,rfl,by omega,by omega,nu.out,St.pk,by simp,by simp,by simp,by simp,by simp,by simp[bc],by simp[lR,St.b8],uZ⟩
 case round=>
  obtain⟨a,mo,ah,tx,cuts,fuel,rfl,ha,hfu,hB,hN,h1,h2,h3,h4,h5,h6,hD,hu⟩:=hrel;clear nu
  by_cases hlt:a<raw.size
  ·have hel:=ku mo wr w.1.size w.1.size ah tx cuts raw a hB hN h1 h2 h3 (by omega) (by omega) (by omega) hu.size hlt hr;have jv:=aa hel;have HD:=aa hD;have HU:=aa hu
   have h0:raw.1.1.drop a≠[]:=by
    intro e;have:=congrArg List.length e
    simp at this;omega
   obtain⟨fuel,rfl⟩:∃m,fuel=m+1:=⟨fuel-1,by omega⟩;clear hel hB hN hD hu;go_wp2_with fail;refine jv.out.mono ?_;rintro e w2 ⟨hbl,hm⟩;have hu2:ac w w2:=ac.cn (Below.trans HU.out.below hbl);have aZ:=aa hu2;clear hbl hu2;cases hs:St.bS (raw.1.1.drop a)with
   | none=>
    rw[hs]at hm;obtain⟨m,rfl⟩:=hm;have cC:=aa (HD.out.trans (St.jH fuel a a _ cuts h0 hs));clear hs h0;go_wp2;go_ret3;exact⟨aZ.out,.inr ⟨a,2,by decide,rfl,cC.out⟩⟩
   | some x=>
    obtain⟨k,t,n⟩:=x;rw[hs]at hm;simp only at hm;obtain⟨hk,iS,fk,hn4⟩:=St.oB hs;have gL:k≠0:=by omega
    have nw:a+n<=raw.size:=by simp at fk;omega
    have iR:(raw.1.1.drop a).drop n=raw.1.1.drop (a+n):=by rw[List.drop_drop]
    cases hst:St.stepT mo.op mo.c k t with
    | none=>
     rw[hst]at hm;obtain⟨m,rfl⟩:=hm;have cC:=aa (HD.out.trans (St.ma fuel a a _ cuts h0 hs gL hst));clear hs h0 hst iR;go_wp2;go_ret3;exact⟨aZ.out,.inr ⟨a,7,by decide,rfl,cC.out⟩⟩
    | some y=>
     obtain⟨i,b7,c'⟩:=y;rw[hst]at hm;simp only at hm
     split at hm
     ·rename_i hf
      obtain⟨m,rfl⟩:=hm;have cC:=aa (HD.out.trans (St.jG fuel a a _ cuts h0 hs gL hst hf));clear hs h0 hf hst iR;go_wp2;go_ret3;exact⟨aZ.out,.inr ⟨a,3,by decide,rfl,cC.out⟩⟩
     rename_i hf
     obtain⟨rfl,v',ft,jm,hB',hN',hadd,ht'⟩:=hm;have hd2:=HD.out.trans (St.iQ fuel a a _ cuts h0 hs gL hst hf);obtain⟨o1,o2,o3⟩:=M5 hst;rw[<-hadd]at hd2 hf;rw[iR]at hd2;have Du:ft.length<=512:=by have:=(not_or.1 hf).1;simp at this;omega
     have QR:cuts.length+1<=1024:=by have:=(not_or.1 hf).2;omega
     have HE:=aa (And.intro hd2 (And.intro hB' hN'));clear hd2 hB' hN' hadd hf hs h0 iR jv HD HU hst;go_wp2;exact⟨⟨a+n,_,ft,jm,cuts++[a],fuel,congrArg (UM US) (by omega),nw,by omega,HE.out.2.1,HE.out.2.2,Du,by simp;omega,by simp;omega,by simp only[List.length_append,List.length_singleton];omega,by simp only[List.length_append,List.length_singleton];omega,by simp only;omega,HE.out.1,aZ.out⟩,by simp[intOf];omega⟩
  have vy:a=raw.size:=by omega
  subst vy;have hnil:raw.1.1.drop raw.size=[]:=List.drop_of_length_le (by simp);rw[hnil,St.fX]at hD;unfold St.gD at hD;obtain⟨v0,v1,v2,hv⟩:=hB;obtain⟨v,op,c⟩:=mo;simp only at h4 h5 h6 hD;obtain⟨A3,c3,rfl,_,_⟩:=aL (show wr.ownsRow w.1.size 36 3 v op.length (av op)from hv.2.2.2.2.2.1);obtain⟨g3,_,_,_,hblt,_⟩:=hv.at;haveI:af w.1.size wr:=af.of hblt;have HB:=aa (show bY ⟨UO A3 op.length c3,op,c⟩ wr w.1.size w.1.size ah tx cuts from⟨_,_,_,hv⟩);have HU:=aa hu
  by_cases hop:op=[]
  ·rw[if_pos hop]at hD;have HD:=aa hD;subst hop;have g3':wr.cell? ⟨w.1.size,3,none⟩=some (UO A3 0 c3):=g3;clear hlt hv hN hD hu hnil g3;go_wp2;go_ret3;exact⟨HU.out,.inl ⟨_,ah,tx,cuts,rfl,HB.out,h1,h2,h3,HD.out⟩⟩
  rw[if_neg hop]at hD;have HD:=aa hD;have hpos:(0:Int)<(op.length:Int):=by have:=List.length_pos_iff.2 hop;omega
  have g3':wr.cell? ⟨w.1.size,3,none⟩=some (UO A3 op.length c3):=g3;clear hlt hv hN hD hu hnil hop g3;go_wp2;go_ret3;exact⟨HU.out,.inr ⟨raw.size,7,by decide,rfl,HD.out⟩⟩
def jB(R:St.gg)(w:UY)(e:Ending)(w':UY):Prop:=
 ∃(A:Option Addr) (c:Nat),e=UU (UR #[UO A R.1.length c,UM US (R.2.2.1:Int),UM US R.2.2.2])/\aO w' A R.1/\R.1.length<=c/\c<=9223372036854775807/\ac w w'
def eM(R:St.gg)(w:UY)(e:Ending)(w':UY):Prop:=
 ∃(A:Option Addr) (c:Nat),e=UU (UR #[UO A R.2.1.length c,UM US R.2.2.2])/\iw w' A R.2.1/\R.2.1.length<=c/\c<=9223372036854775807/\ac w w'
theorem pN(raw:ByteArray)(w:UY)(hr:raw.size<=4611686018427387904):Calls Tryz.prog 91 #[UN raw] w (jB (lR raw) w):=by
 have HR:=aa (jT raw w hr);go_enter Tryz.func91,Tryz.ntmps91;go_wp2_with fail;refine HR.out.mono ?_;rintro e w2 ⟨hu,⟨mo,ah,tx,cuts,rfl,hB,h1,h2,h3,hD⟩|⟨a,er,her,rfl,hD⟩⟩
 ·have HI:=aa (ph w2 w.1.size w.1.size ah tx cuts hB (by omega) (by omega) hu.size);have HU:=aa hu;have HD:=aa hD;clear hu hB hD HR;go_wp2_with fail;refine HI.out.mono ?_;rintro e w3 ⟨A,c,rfl,hI,hc1,hc2,hbl⟩;have HE:=aa (And.intro hI (ac.cn (Below.trans HU.out.below hbl)));have ol:=aa hc1;clear hI hbl hc1;go_wp2;go_ret3;unfold jB;rw[HD.out];exact⟨A,c,by simp only[List.length_append];rfl,HE.out.1,ol.out,hc2,HE.out.2⟩
 have hb:(er==0)=false:=by simpa using her
 have HU:=aa hu;have HD:=aa hD;clear hu hD HR;go_wp2;go_ret3;unfold jB;rw[HD.out];exact⟨none,0,rfl,λh=>absurd h (by simp),by simp,by omega,HU.out⟩
theorem Ig(raw:ByteArray)(w:UY)(hr:raw.size<=4611686018427387904):Calls Tryz.prog 87 #[UN raw] w (eM (lR raw) w):=by
 have HR:=aa (jT raw w hr);go_enter Tryz.func87,Tryz.ntmps87;go_wp2_with fail;refine HR.out.mono ?_;rintro e w2 ⟨hu,⟨mo,ah,tx,cuts,rfl,hB,h1,h2,h3,hD⟩|⟨a,er,her,rfl,hD⟩⟩
 ·have HI:=aa (oU w2 w.1.size w.1.size ah tx cuts raw.size hB (by omega) (by simpa using hu.size));have HU:=aa hu;have HD:=aa hD;clear hu hB hD HR;go_wp2_with fail;refine HI.out.mono ?_;rintro e w3 ⟨A,c,rfl,hI,hc1,hc2,hbl⟩;have HE:=aa (And.intro hI (ac.cn (Below.trans HU.out.below hbl)));have ol:=aa hc1;clear hI hbl hc1;go_wp2;go_ret2;unfold eM;rw[HD.out];exact⟨A,c,by simp,HE.out.1,by simpa using ol.out,hc2,HE.out.2⟩
 have hb:(er==0)=false:=by simpa using her
 have HU:=aa hu;have HD:=aa hD;clear hu hD HR;go_wp2;go_ret2;unfold eM;rw[HD.out];exact⟨none,0,rfl,λh=>absurd h (by simp),by simp,by omega,HU.out⟩
def dE(l:List UInt8):Nat × Int:=((St.eD St.bS l 0 0 [] [] [] 0).2.2.1,(St.eD St.bS l 0 0 [] [] [] 0).2.2.2)
theorem LQ(x:ByteArray):lR x=St.eD St.bS x.1.1 0 0 [] [] [] 0:=by unfold lR St.eD;rw[St.aC]
theorem kE(x:ByteArray):dE x.1.1=((lR x).2.2.1,(lR x).2.2.2):=by unfold dE;rw[LQ]
theorem De:∀(fuel:Nat) (l:List UInt8) (a d:Nat) (f:List St.It) (cuts:List Nat) (op:List St.It) (c:Nat),(St.dl St.bS fuel l a d f cuts op c).2.2.1<=a+l.length
 | 0,l,a,d,f,cuts,op,c=>by unfold St.dl St.gD;split<;>simp
 | fuel+1,l,a,d,f,cuts,op,c=>by
  by_cases h0:l=[]
  ·subst h0;rw[St.fX];unfold St.gD;split<;>simp
  cases hs:St.bS l with
  | none=>rw[St.jH fuel a d f cuts h0 hs];simp
  | some x=>
   obtain⟨k,t,n⟩:=x;obtain⟨hk,iS,fk,_⟩:=St.oB hs;cases hst:St.stepT op c k t with
   | none=>rw[St.ma fuel a d f cuts h0 hs (by omega) hst];simp
   | some y=>
    obtain⟨i,b7,c'⟩:=y
    by_cases hf:512<(St.aP f (k,t,i)).length\/1024<=cuts.length
    ·rw[St.jG fuel a d f cuts h0 hs (by omega) hst hf];simp
    rw[St.iQ fuel a d f cuts h0 hs (by omega) hst hf];have h:=De fuel (l.drop n) (a+n) (a+n) (St.aP f (k,t,i)) (cuts++[d]) b7 c';rw[List.length_drop]at h;omega
theorem vQ(x:ByteArray):(lR x).2.2.1<=x.size:=by
 have:=De x.size x.1.1 0 0 [] [] [] 0
 rw[St.aC]at this;unfold lR;omega
end
section
def qx:String:=(Rows.documentLimitsRow.named).getD 1 "x"
def mM(w:UY):Prop:=Lib.TabIs Tryz.prog w qx .u64 Lib.pow10Tab
theorem mM.ai{w w':UY}(h:ac w w')(t:mM w):mM w':=by
 unfold mM Lib.TabIs World.var? at t |-;cases hg:Program.globalNamed Tryz.prog qx with
 | none=>rw[hg]at t;simp at t
 | some g=>
  rw[hg]at t;simp only[Option.bind_some]at t |-
  have hlt:g<w.1.size:=by
   rcases Nat.lt_or_ge g w.1.size with h|h
   ·exact h
   rw[Array.getElem?_eq_none h]at t;simp at t
  rw[h.below.block g hlt];exact t
theorem KT{a b:UY}(h:ac a b)(os:Array Obj):ac a (Go.Sort.grow b os):=by
 refine ac.mk ⟨h.below.os,h.below.tape,h.below.output,?_,λk hk=>?_⟩
 ·have:=h.below.size;unfold Go.Sort.grow;simp;omega
 unfold Go.Sort.grow;have:=h.below.size
 rw[Array.getElem?_append_left (by omega)];exact h.below.block k hk
theorem uz(n:Nat)(w:UY)(h1:n<=4611686018427387904)(t:mM w) :
  Calls Tryz.prog 124 #[UM US n] w λe w'=>e=UU (UN ⟨(Lib.decDigits n).toArray⟩)/\ac w w':=by
 refine(Any.strconv_Itoa Tryz.Bq n (by omega) (by omega) w t).mono ?_;rintro e w' ⟨rfl,k,os,rfl⟩;refine⟨?_,KT ((ac.refl w).drewN k) os⟩;unfold Lib.itoa;rw[if_neg (by omega)];simp
end
section
theorem jP(d:ByteArray)(w:UY):Calls Tryz.prog 75 #[UN d] w λe w'=>e=UU (UQ (some ⟨w.1.size,0,none⟩))/\w'=w.alloc (UT #[UN d,UM US 0,UO none 0 0] 161):=by
 go_enter Tryz.func75,Tryz.ntmps75;go_wp2;go_ret;exact⟨rfl,rfl⟩
def kD(w:UY):Prop:=mM w/\∃m:Int,0<w.1.size/\w.cell? ⟨0,0,none⟩=some (UM US m)
theorem kD.ai{w w':UY}(h:kD w)(u:ac w w'):kD w':=by
 obtain⟨h1,m,h2,h3⟩:=h;exact⟨h1.ai u,m,Nat.lt_of_lt_of_le h2 u.size,(u.cell (p:=⟨0,0,none⟩) h2).trans h3⟩
def gP(d:ByteArray):List St.Pt × Nat × Int:=St.gU dE Lib.decDigits d.1.1
def aF(R:List St.Pt × Nat × Int)(w:UY)(e:Ending)(w':UY):Prop:=
 ∃(A:Option Addr) (c:Nat),e=UU (UR #[UO A R.1.length c,UM US (R.2.1:Int),UM US R.2.2])/\bn w' A R.1/\R.1.length<=c/\c<=9223372036854775807/\ac w w'
theorem aF.err{R:List St.Pt × Nat × Int}{w w':UY}{a:Nat}{er:Int}(h:R=([],a,er))(u:ac w w')(m:Int)(hm:m=a):aF R w (UU (UR #[UO none 0 0,UM US m,UM US er])) w':=by
 subst h hm;exact⟨none,0,rfl,λh=>absurd h (by simp),by simp,by omega,u⟩
def PC(w:UY)(d:ByteArray)(s3 s6:Value)(wr:UY):Prop:=
 ∃(a r fuel:Nat) (s:St.PS),s3=UM US a/\s6=UM US r/\a<=d.size/\r<=a/\d.size-a<fuel/\s.2<=a/\s.1.length<=2*a/\PV wr w.1.size w.1.size d s/\gP d=St.jx d.1.1 (St.ej dE Lib.decDigits d.1.1 fuel a r s)/\ac w wr
theorem ee(b:List UInt8):((⟨#[60,47]⟩:ByteArray)++⟨b.toArray⟩++⟨#[62]⟩).1.1=St.df b:=by
 simp[St.df]
theorem Fw(d:ByteArray)(w:UY)(hL:kD w)(fZ:d.size<=4611686018427387904):Calls Tryz.prog 84 #[UN d] w (aF (gP d) w):=by
 have hlen:=St.aC d
 by_cases hbig:65536<d.size
 ·have hR:gP d=([],0,3):=by unfold gP St.gU;rw[if_pos (by omega)]
  have HR:=aa hR;have hb:(65536:Int)<d.size:=by omega
  clear hR hlen hL;go_enter Tryz.func84,Tryz.ntmps84;go_wp2;go_ret3;exact aF.err HR.out (ac.refl _) _ rfl
 have hb:¬(65536:Int)<d.size:=by omega
 have hd:d.size<=65536:=by omega
 have lh:PV (w.alloc (UT #[UN d,UM US 0,UO none 0 0] 161)) w.1.size w.1.size d ([],0):=⟨Nat.le_refl _,UO none 0 0,heap_alloc_new w _,World.ownsRow_nil _ _ _ _⟩
 have sq:gP d=St.jx d.1.1 (St.ej dE Lib.decDigits d.1.1 (d.size+1) 0 0 ([],0)):=by
  unfold gP;rw[St.pw (by omega),hlen]
 have ju:=aa (And.intro lh (And.intro sq ((ac.refl w).alloc (UT #[UN d,UM US 0,UO none 0 0] 161))));have HLEN:=aa hlen;obtain⟨fF,m,hm0,AW⟩:=hL;have Ah:=aa fF;have Qi:=aa (show ∀W,ac w W->W.cell? ⟨0,0,none⟩=some (UM US m)from λW hW=>(hW.cell (p:=⟨0,0,none⟩) hm0).trans AW);clear lh sq hlen fF hm0 AW;go_enter Tryz.func84,Tryz.ntmps84;go_wp2_with (go_at_call 75;refine(jP d _).mono ?_;rintro e w' ⟨rfl,rfl⟩);go_loopw [3,6] (λs3 s6 wr=>PC w d s3 s6 wr) (λs3 _ _=>d.size+1-(intOf s3).toNat)
 case atStart=>exact⟨0,0,d.size+1,([],0),rfl,rfl,by omega,by omega,by omega,by simp,by simp,ju.out.1,ju.out.2.1,ju.out.2.2⟩
 case round=>
  obtain⟨a,r,fuel,s,rfl,rfl,ha,OA,hfu,hs2,hs1,hP,hS,hu⟩:=hrel;have HP:=aa hP;have HS:=aa hS;have HU:=aa hu;have hsz:=hu.size;clear hP hS hu ju
  by_cases hlt:a<d.size
  ·obtain⟨fuel,rfl⟩:∃m,fuel=m+1:=⟨fuel-1,by omega⟩;have ef:=aa (show ¬d.1.1.length<=a by rw[HLEN.out];omega);have z:(a:Int)<d.size:=by omega
   have z2:(a:Int)<=d.size:=by omega
   obtain⟨x,hx⟩:∃x,d.extract a d.size=x:=⟨_,rfl⟩;have hxl:x.1.1=d.1.1.drop a:=by rw[<-hx,Lib.extract_data,List.take_of_length_le (by simp)]
   have hxs:x.size=d.size-a:=by rw[<-hx];simp
   have hout:=λW (hW:ac wr W)=>CI x m W (Qi.out _ (HU.out.trans hW)) (by omega) (by omega)
   rw[hxl]at hout;cases ho:St.dv (d.1.1.drop a)with
   | none=>
    rw[ho]at hout;have HO:=aa hout;have HR:=aa (HS.out.trans (by rw[St.nT ef.out ho];rfl):gP d=([],a,2));clear hout ho hxl;go_wp2_with fail;refine(HO.out _ (ac.refl _)).mono ?_;rintro e w2 ⟨hu2,q,y,rfl⟩;have aZ:=aa (HU.out.trans hu2);clear hu2 HO;go_wp2;go_ret3;exact aF.err HR.out aZ.out _ rfl
   | some q=>
    obtain⟨n,b⟩:=q;rw[ho]at hout;obtain⟨iS,fk,bV,hbb⟩:=St.ra ho (by intro h0;have:=congrArg List.length h0;simp at this;omega);simp at fk;have vH:∀W,ac wr W->Calls Tryz.prog 122 #[UN x] W λe w'=>ac W w'/\e=UU (UR #[UM US n,UN ⟨b.toArray⟩,UP true]):=hout
    by_cases hb0:b=[]
    ·subst hb0;have HST:=aa (HS.out.trans (by rw[St.jc ef.out ho]):gP d=St.jx d.1.1 (St.ej dE Lib.decDigits d.1.1 fuel (a+n) r s));have HO:=aa vH;clear hout vH ho hxl;go_wp2_with fail;refine(HO.out _ (ac.refl _)).mono ?_;rintro e w2 ⟨hu2,rfl⟩;have aZ:=aa (HU.out.trans hu2);have gz:=aa (HP.out.ai hu2);clear hu2 HO;go_wp2;exact⟨⟨a+n,r,fuel,s,congrArg (UM US) (by omega),rfl,by omega,by omega,by omega,by omega,by omega,gz.out,HST.out,aZ.out⟩,by simp[intOf];omega⟩
    have hbk:=hbb hb0;obtain⟨bb,wT⟩:∃bb:ByteArray,(⟨b.toArray⟩:ByteArray)=bb:=⟨_,rfl⟩;have hbl:bb.1.1=b:=by rw[<-wT]
    have hbs:bb.size=b.length:=by rw[<-wT];show b.toArray.size=_;simp
    have TS:(bb.toList==([]:List UInt8))=false:=by rw[jw,hbl];exact decide_eq_false hb0
    rw[wT]at vH;have HO:=aa vH;obtain⟨x2,hx2⟩:∃x2,d.extract (a+n) d.size=x2:=⟨_,rfl⟩;have sG:x2.1.1=d.1.1.drop (a+n):=by rw[<-hx2,Lib.extract_data,List.take_of_length_le (by simp)]
    have Fg:x2.size=d.size-(a+n):=by rw[<-hx2];simp
    obtain⟨eb,eP⟩:∃eb:ByteArray,(⟨#[60,47]⟩:ByteArray)++bb++⟨#[62]⟩=eb:=⟨_,rfl⟩;have sv:eb.1.1=St.df b:=by rw[<-eP,<-wT];exact ee b
    have RH:eb.size=b.length+3:=by have:=congrArg List.length sv;rw[St.aC]at this;rw[this];simp[St.df]
    have bM:=λW (hW:ac wr W)=>Tryz.strings_Index x2 eb m W (by omega) (Qi.out _ (HU.out.trans hW))
    rw[sv,sG]at bM;have y1:((a:Int)+n)<=d.size:=by omega
    have y2:(0:Int)<=(a:Int)+n:=by omega
    have hge:=Lib.index_ge (d.1.1.drop (a+n)) (St.df b);have hno:=λhj he=>St.ml (dE:=dE) (dig:=Lib.decDigits) (fuel:=fuel) (r:=r) (s:=s) ef.out ho hb0 hj he
    have E8:=λhj he=>St.lk (dE:=dE) (dig:=Lib.decDigits) (fuel:=fuel) (r:=r) (s:=s) ef.out ho hb0 hj he
    have EU:=λj hj he=>St.nU (dE:=dE) (dig:=Lib.decDigits) (fuel:=fuel) (r:=r) (s:=s) (j:=j) ef.out ho hb0 hj he
    have zL:=λj hj he=>St.kU (dE:=dE) (dig:=Lib.decDigits) (fuel:=fuel) (r:=r) (s:=s) (j:=j) ef.out ho hb0 hj he
    have hroom:=λj (hj:Lib.index (d.1.1.drop (a+n)) (St.df b)=(j:Nat))=>St.index_room hj (by simp[St.df])
    have y3:¬9223372036854775807<2+bb.size:=by omega
    have y4:¬9223372036854775807<2+bb.size+1:=by omega
    have y5:((a:Int)+n).toNat=a+n:=by omega
    generalize Tn:Lib.index (d.1.1.drop (a+n)) (St.df b)=zi at bM hge hno E8 EU zL hroom;have dS:=aa bM;clear bM hout vH ho hxl hbk hbb wT hbl sv hb0 Tn
    by_cases hz:zi<0
    ·have hN:=hno hz;have sn:=E8 hz;rw[<-sG,kE]at hN sn;have ey:=λW=>pN x2 W (by omega)
     have hat:=vQ x2;generalize lR x2=R at ey hat hN sn;obtain⟨rf,rc,ik,re⟩:=R;simp only at hN sn hat;have iM:=aa ey;have HN:=aa hN;have lq:=aa sn;clear ey hN sn hno E8 EU zL hroom sG;go_wp2_with fail;refine(HO.out _ (ac.refl _)).mono ?_;rintro e w2 ⟨hu2,rfl⟩;have aZ:=aa hu2;clear hu2;go_wp2_with fail;refine(dS.out _ aZ.out).mono ?_;rintro e w3 ⟨rfl,rfl⟩;go_wp2_with fail;refine(iM.out _).mono ?_;rintro e w6 ⟨A6,c6,rfl,_,_,_,eZ⟩;have eg:=aa ((HU.out.trans aZ.out).trans eZ);clear eZ iM dS HO aZ
     by_cases hre:re=0
     ·subst hre;have HR:=aa (HS.out.trans (by rw[HN.out rfl,HLEN.out];rfl):gP d=([],d.size,2));clear HN lq HS;go_wp2;go_ret3;exact aF.err HR.out eg.out _ rfl
     have Dw:(re==0)=false:=by simpa using hre
     have J4:(re != 0)=true:=by simpa using hre
     have HR:=aa (HS.out.trans (by rw[lq.out hre];rfl):gP d=([],a+n+ik,re));clear HN lq HS;go_wp2;go_ret3;exact aF.err HR.out eg.out _ (by omega)
    obtain⟨j,rfl⟩:∃j:Nat,zi=(j:Int):=⟨zi.toNat,by omega⟩;have Dx:=hroom j rfl;rw[List.length_drop,HLEN.out]at Dx;have hel:(St.df b).length=b.length+3:=by simp[St.df]
    rw[hel]at Dx;have hE:=EU j rfl;have rN:=zL j rfl;obtain⟨x3,hx3⟩:∃x3,d.extract (a+n) (a+n+j)=x3:=⟨_,rfl⟩;have hc3:St.aY d.1.1 (a+n) (a+n+j)=x3.1.1:=by rw[<-hx3,eJ]
    have R3:x3.size<=d.size:=by rw[<-hx3];simp;omega
    rw[hc3,kE]at hE rN;have ey:=λW=>pN x3 W (by omega)
    have hat:=vQ x3;generalize lR x3=R at ey hat hE rN;obtain⟨rf,rc,ik,re⟩:=R;simp only at hE rN hat;have iM:=aa ey;have HE:=aa hE;have ir:=aa rN;have y6:¬(j:Int)<0:=by omega
    have y7:((a:Int)+n+j).toNat=a+n+j:=by omega
    have y8:(a:Int)+n<=(a:Int)+n+j:=by omega
    have y9:(a:Int)+n+j<=d.size:=by omega
    clear ey hE rN hno E8 EU zL hroom sG hel hc3;go_wp2_with fail;refine(HO.out _ (ac.refl _)).mono ?_;rintro e w2 ⟨hu2,rfl⟩;have aZ:=aa hu2;clear hu2;go_wp2_with fail;refine(dS.out _ aZ.out).mono ?_;rintro e w3 ⟨rfl,rfl⟩;go_wp2_with fail;refine(iM.out _).mono ?_;rintro e w6 ⟨A6,c6,rfl,_,_,_,eZ⟩;have eg:=aa (aZ.out.trans eZ);clear eZ iM dS HO aZ
    by_cases hre:re=0
    ·subst hre;have HST:=aa (HS.out.trans (by rw[ir.out rfl]):gP d=St.jx d.1.1 (St.ej dE Lib.decDigits d.1.1 fuel (a+n+j+(b.length+3)) (r+1) (St.bg d.1.1 s (a+n) (a+n+j) (Lib.decDigits (r+1)))));have HIT:=aa (λW (hW:ac w6 W)=>uz (r+1) W (by omega) (Ah.out.ai ((HU.out.trans eg.out).trans hW)));have hr1:((r+1:Nat):Int)=(r:Int)+1:=by omega
     rw[hr1]at HIT;clear HE ir HS;go_wp2_with fail;refine(HIT.out _ (ac.refl _)).mono ?_;rintro e w7 ⟨rfl,cf⟩;have xH:=aa ((HP.out.ai eg.out).ai cf);have lZ:=aa ((HU.out.trans eg.out).trans cf);have hun:=λW (hp:PV W w.1.size w.1.size d s) (hw:w.1.size<=W.1.size)=>uU W w.1.size w.1.size d ⟨(Lib.decDigits (r+1)).toArray⟩ s (a+n) (a+n+j) hp (by omega) (by omega) (by omega) fZ (by omega) hw
     have q1:((a+n:Nat):Int)=(a:Int)+n:=by omega
     have q2:((a+n+j:Nat):Int)=(a:Int)+n+j:=by omega
     rw[q1,q2]at hun;have Ak:=aa hun;have J5:=lZ.out.size;clear cf hun HIT eg HU HP q1 q2;go_wp2_with fail;refine(Ak.out _ xH.out J5).mono ?_;rintro e w8 ⟨rfl,hp8,hbl8,_,_⟩;have Sy:=aa hp8;have nr:=aa (ac.cn (Below.trans lZ.out.below hbl8));clear hp8 hbl8 Ak xH lZ;go_wp2;exact⟨⟨a+n+j+(b.length+3),r+1,fuel,_,congrArg (UM US) (by omega),congrArg (UM US) (by omega),by omega,by omega,by omega,by first|(simp[St.bg];done)|(simp[St.bg];omega),by first|(simp[St.bg];done)|(simp[St.bg];omega),Sy.out,HST.out,nr.out⟩,by simp[intOf];omega⟩
    have Dw:(re==0)=false:=by simpa using hre
    have J4:(re != 0)=true:=by simpa using hre
    have HR:=aa (HS.out.trans (by rw[HE.out hre];rfl):gP d=([],a+n+ik,re));have lZ:=aa (HU.out.trans eg.out);clear HE ir HS HU eg;go_wp2;go_ret3;exact aF.err HR.out lZ.out _ (by omega)
  have He:a=d.size:=by omega
  have HL:=aa (uA wr w.1.size w.1.size d s HP.out (by omega) (by omega) (by omega) hsz);have HR:=aa (HS.out.trans (show St.jx d.1.1 (St.ej dE Lib.decDigits d.1.1 fuel a r s)=(St.cD d.1.1 s,0,0)by rw[St.iH (by rw[HLEN.out];omega)];rfl));have z:¬(a:Int)<d.size:=by omega
  go_wp2_with fail;refine HL.out.mono ?_;rintro e w3 ⟨A,c,rfl,li,hq1,hq2,hbl⟩;have HE:=aa (And.intro li (ac.cn (Below.trans HU.out.below hbl)));have mh:=aa hq1;clear li hbl hq1 HL;go_wp2;go_ret3;unfold aF;rw[HR.out];exact⟨A,c,by simp[St.cD],HE.out.1,by simpa[St.cD]using mh.out,hq2,HE.out.2⟩
end
end Go.Proofs.YthoemdibbldndaaGreatDoor.Mk
namespace Go.Proofs.YthoemdibbldndaaGreatDoor.St
def wG(dE:List UInt8->Nat × Int)(d:List UInt8)(s:PS):Prop:=s.1.length % 2=0/\(∀i (h:i<s.1.length),s.1[i].1=decide (i % 2=1)/\(s.1[i].2.1=[] ↔ s.1[i].1=false)/\(s.1[i].1=true->(dE s.1[i].2.2).2=0))/\s.1.flatMap (·.2.2)=d.take s.2/\s.2<=d.length
theorem Kd(dE:List UInt8->Nat × Int)(d:List UInt8):wG dE d ([],0):=⟨rfl,λi h=>by simp at h,by simp,by simp⟩
theorem xS(d:List UInt8)(a b:Nat)(h:a<=b):d.take a++aY d a b=d.take b:=by
 unfold aY
 conv=>rhs;rw[<-List.take_append_drop a (d.take b)]
 rw[List.take_take,Nat.min_eq_left h]
theorem H8{dE:List UInt8->Nat × Int}{d:List UInt8}{s:PS}{a b:Nat}{key:List UInt8}(h:wG dE d s)(h1:s.2<=a)(h2:a<=b)(h3:b<=d.length)(hk:key≠[])(he:(dE (aY d a b)).2=0):wG dE d (bg d s a b key):=by
 obtain⟨i1,i2,i3,i4⟩:=h;unfold bg;refine⟨by simp;omega,λi hi=>?_,?_,h3⟩
 ·simp only[List.length_append,List.length_cons,List.length_nil]at hi
  by_cases hlt:i<s.1.length
  ·simp only[List.getElem_append_left hlt];exact i2 i hlt
  simp only[List.getElem_append_right (Nat.le_of_not_lt hlt)];rcases(show i-s.1.length=0\/i-s.1.length=1 by omega)with hq|hq
  ·simp only[hq,List.getElem_cons_zero];refine⟨by rw[decide_eq_false (by omega)],by simp,by simp⟩
  simp only[hq,List.getElem_cons_succ,List.getElem_cons_zero];refine⟨by rw[decide_eq_true (by omega)],by simp[hk],λ_=>he⟩
 simp only[List.flatMap_append,List.flatMap_cons,List.flatMap_nil,List.append_nil];rw[i3,<-List.append_assoc,xS d _ _ h1,xS d _ _ h2]
def Am(dE:List UInt8->Nat × Int)(d:List UInt8)(ps:List Pt):Prop:=ps.length % 2=1/\(∀i (h:i<ps.length),ps[i].1=decide (i % 2=1)/\(ps[i].2.1=[] ↔ ps[i].1=false)/\(ps[i].1=true->(dE ps[i].2.2).2=0))/\ps.flatMap (·.2.2)=d
theorem Kc{dE:List UInt8->Nat × Int}{d:List UInt8}{s:PS}(h:wG dE d s):Am dE d (cD d s):=by
 obtain⟨i1,i2,i3,i4⟩:=h;unfold cD;refine⟨by simp;omega,λi hi=>?_,?_⟩
 ·simp only[List.length_append,List.length_singleton]at hi
  by_cases hlt:i<s.1.length
  ·simp only[List.getElem_append_left hlt];exact i2 i hlt
  simp only[List.getElem_append_right (Nat.le_of_not_lt hlt)];have hq:i-s.1.length=0:=by omega
  simp only[hq,List.getElem_cons_zero];refine⟨by rw[decide_eq_false (by omega)],by simp,by simp⟩
 simp only[List.flatMap_append,List.flatMap_cons,List.flatMap_nil,List.append_nil];rw[i3];simp
end Go.Proofs.YthoemdibbldndaaGreatDoor.St
namespace Go.Proofs.YthoemdibbldndaaGreatDoor.St
theorem pH{d:List UInt8}{a:Nat}(h:¬d.length<=a):d.drop a≠[]:=by
 intro e;have:=congrArg List.length e
 simp at this;omega
theorem Bl{dE:List UInt8->Nat × Int}{dig:Nat->List UInt8}(hd:∀n,dig n≠[]){d:List UInt8}:∀(fuel a r:Nat) (s s':PS),wG dE d s->s.2<=a->ej dE dig d fuel a r s=.ok s'->wG dE d s'
 | 0,a,r,s,s',hi,_,h=>by simp[ej]at h;subst h;exact hi
 | fuel+1,a,r,s,s',hi,ha,h=>by
  by_cases hl:d.length<=a
  ·rw[iH hl]at h;cases h;exact hi
  cases h1:dv (d.drop a)with
  | none=>rw[nT hl h1]at h;cases h
  | some x=>
   obtain⟨n,b⟩:=x;have hn:=ra h1 (pH hl);rw[List.length_drop]at hn
   by_cases hb:b=[]
   ·subst hb;rw[jc hl h1]at h;exact Bl hd fuel _ _ s s' hi (by omega) h
   by_cases hj:Lib.index (d.drop (a+n)) (df b)<0
   ·by_cases he:(dE (d.drop (a+n))).2=0
    ·rw[ml hl h1 hb hj he]at h;cases h
    rw[lk hl h1 hb hj he]at h;cases h
   obtain⟨j,lM⟩:∃j:Nat,Lib.index (d.drop (a+n)) (df b)=(j:Int):=⟨_,(Int.toNat_of_nonneg (by omega)).symm⟩
   by_cases he:(dE (aY d (a+n) (a+n+j))).2=0
   ·rw[kU hl h1 hb lM he]at h;have hr:=index_room lM (by simp[df]);rw[List.length_drop]at hr;refine Bl hd fuel _ _ _ s' (H8 hi (by omega) (by omega) (by omega) (hd _) he) ?_ h
    show a+n+j<=_
    omega
   rw[nU hl h1 hb lM he]at h;cases h
theorem uD{dE:List UInt8->Nat × Int}{dig:Nat->List UInt8}{d:List UInt8}:∀(fuel a r:Nat) (s:PS) (x:Nat),ej dE dig d fuel a r s≠.error (x,0)
 | 0,a,r,s,x=>by simp[ej]
 | fuel+1,a,r,s,x=>by
  intro h
  by_cases hl:d.length<=a
  ·rw[iH hl]at h;cases h
  cases h1:dv (d.drop a)with
  | none=>rw[nT hl h1]at h;simp at h
  | some y=>
   obtain⟨n,b⟩:=y
   by_cases hb:b=[]
   ·subst hb;rw[jc hl h1]at h;exact uD fuel _ _ s x h
   by_cases hj:Lib.index (d.drop (a+n)) (df b)<0
   ·by_cases he:(dE (d.drop (a+n))).2=0
    ·rw[ml hl h1 hb hj he]at h;simp at h
    rw[lk hl h1 hb hj he]at h;simp only[Except.error.injEq,Prod.mk.injEq]at h;exact he h.2
   obtain⟨j,lM⟩:∃j:Nat,Lib.index (d.drop (a+n)) (df b)=(j:Int):=⟨_,(Int.toNat_of_nonneg (by omega)).symm⟩
   by_cases he:(dE (aY d (a+n) (a+n+j))).2=0
   ·rw[kU hl h1 hb lM he]at h;exact uD fuel _ _ _ x h
   rw[nU hl h1 hb lM he]at h;simp only[Except.error.injEq,Prod.mk.injEq]at h;exact he h.2
theorem Ci{dE:List UInt8->Nat × Int}{dig:Nat->List UInt8}(hd:∀n,dig n≠[]){d:List UInt8}(h:(gU dE dig d).2.2=0):Am dE d (gU dE dig d).1:=by
 by_cases h0:65536<d.length
 ·unfold gU at h;rw[if_pos h0]at h;cases h
 rw[pw h0]at h |-;cases hr:ej dE dig d (d.length+1) 0 0 ([],0)with
 | error x=>
  obtain⟨a,er⟩:=x;rw[hr]at h;have:er=0:=h
  subst this;exact absurd hr (uD _ _ _ _ _)
 | ok s=>exact Kc (Bl hd _ _ _ _ _ (Kd _ _) (by simp) hr)
theorem uC{dE:List UInt8->Nat × Int}{dig:Nat->List UInt8}{d:List UInt8}:∀(fuel fuel' a r:Nat) (s:PS),d.length-a<=fuel->d.length-a<=fuel'->ej dE dig d fuel a r s=ej dE dig d fuel' a r s
 | 0,fuel',a,r,s,h,_=>by rw[iH (by omega),iH (by omega)]
 | fuel+1,0,a,r,s,_,h=>by rw[iH (by omega),iH (by omega)]
 | fuel+1,fuel'+1,a,r,s,h,h'=>by
  by_cases hl:d.length<=a
  ·rw[iH hl,iH hl]
  cases h1:dv (d.drop a)with
  | none=>rw[nT hl h1,nT hl h1]
  | some y=>
   obtain⟨n,b⟩:=y;have hn:=ra h1 (pH hl)
   by_cases hb:b=[]
   ·subst hb;rw[jc hl h1,jc hl h1];exact uC fuel fuel' _ _ _ (by omega) (by omega)
   by_cases hj:Lib.index (d.drop (a+n)) (df b)<0
   ·by_cases he:(dE (d.drop (a+n))).2=0
    ·rw[ml hl h1 hb hj he,ml hl h1 hb hj he]
    rw[lk hl h1 hb hj he,lk hl h1 hb hj he]
   obtain⟨j,lM⟩:∃j:Nat,Lib.index (d.drop (a+n)) (df b)=(j:Int):=⟨_,(Int.toNat_of_nonneg (by omega)).symm⟩
   by_cases he:(dE (aY d (a+n) (a+n+j))).2=0
   ·rw[kU hl h1 hb lM he,kU hl h1 hb lM he];exact uC fuel fuel' _ _ _ (by omega) (by omega)
   rw[nU hl h1 hb lM he,nU hl h1 hb lM he]
end Go.Proofs.YthoemdibbldndaaGreatDoor.St
namespace Go.Proofs.YthoemdibbldndaaGreatDoor.St
def D9:List (List UInt8):=[[98,114],[105,109,103,32,97]]
def zg:List (List UInt8):=[[98],[105],[97,32,104,61,49]]
inductive eH (ns:Bool):List It->List It->Nat->Prop
 | nil:eH ns [] [] 0
 | text {f op:List It} {c:Nat} (t:List UInt8) (h:eH ns f op c):eH ns (aP f (1,t,0)) op c
 | slot {f op:List It} {c:Nat} (t:List UInt8) (ht:aB t=true) (h:eH ns f op c):eH ns (aP f (5,t,0)) op c
 | empty {f op:List It} {c:Nat} (t:List UInt8) (ht:t∈D9) (h:eH ns f op c):eH ns (aP f (4,t,(c:Int)+1)) op (c+1)
 | opened {f op:List It} {c:Nat} (t:List UInt8) (ht:t∈zg) (h:eH ns f op c):eH ns (aP f (2,t,(c:Int)+1)) (op++[(2,t,(c:Int)+1)]) (c+1)
 | closed {f op:List It} {c:Nat} (k:Nat) (hk:k<op.length) (hl:ns=true->k+1=op.length) (h:eH ns f op c):eH ns (aP f (3,nameOf op[k].2.1,op[k].2.2)) (op.take k++op.drop (k+1)) c
 | stray {f op:List It} {c:Nat} (hn:ns=false) (h:eH ns f op c):eH ns (aP f (3,[98],(c:Int)+1)) op (c+1)
theorem eH.nm{ns:Bool}{f op:List It}{c:Nat}(h:eH ns f op c):Nm f:=by
 induction h with
 | nil=>exact oE
 | text t h ih=>exact fy ih _
 | slot t ht h ih=>exact fy ih _
 | empty t ht h ih=>exact fy ih _
 | opened t ht h ih=>exact fy ih _
 | closed k hk hl h ih=>exact fy ih _
 | stray hn h ih=>exact fy ih _
theorem eH.small{ns:Bool}{f op:List It}{c:Nat}(h:eH ns f op c):∀y∈op,y.2.1.length<=5/\y.1=2:=by
 induction h with
 | nil=>intro y hy;cases hy
 | text t h ih=>exact ih
 | slot t ht h ih=>exact ih
 | empty t ht h ih=>exact ih
 | opened t ht h ih=>
  intro y hy;rcases List.mem_append.1 hy with hy|hy
  ·exact ih y hy
  simp at hy;subst hy;simp[zg]at ht;rcases ht with rfl|rfl|rfl<;>simp
 | closed k hk hl h ih=>
  intro y hy;rcases List.mem_append.1 hy with hy|hy
  ·exact ih y (List.mem_of_mem_take hy)
  exact ih y (List.mem_of_mem_drop hy)
 | stray hn h ih=>exact ih
theorem uE(l:List UInt8):(nameOf l).length<=l.length:=(List.takeWhile_prefix _).length_le
end Go.Proofs.YthoemdibbldndaaGreatDoor.St
namespace Go.Proofs.YthoemdibbldndaaGreatDoor.St
def nD(x:It):Prop:=(x.1=1/\x.2.2=0)\/(x.1=5/\aB x.2.1=true/\x.2.2=0)\/((x.1=2\/x.1=4)/\aI x.2.1=true/\bu (nameOf x.2.1)=false/\1<=x.2.2/\x.2.2<=999)\/(x.1=3/\aB x.2.1=true/\bu x.2.1=false/\1<=x.2.2/\x.2.2<=999)
theorem nK(k:Int):aJ k=true ↔ k=2\/k=3\/k=4:=by unfold aJ;simp
theorem I2{t:List UInt8}(h:t∈zg):aI t=true/\bu (nameOf t)=false/\aB (nameOf t)=true:=by
 simp[zg]at h;rcases h with rfl|rfl|rfl<;>decide
theorem O0{t:List UInt8}(h:t∈D9):aI t=true/\bu (nameOf t)=false:=by
 simp[D9]at h;rcases h with rfl|rfl<;>decide
theorem gf{f:List It}{x y:It}(h:y∈aP f x):y∈f\/y=x\/(y.1=1/\y.2.2=0/\x.1=1):=by
 rcases cG f with rfl|⟨a,b,rfl⟩
 ·rw[ek]at h
  split at h
  ·rename_i h1
   split at h
   ·cases h
   simp at h;subst h;exact .inr (.inr ⟨rfl,rfl,h1⟩)
  simp at h;exact .inr (.inl h)
 rw[cS]at h
 split at h
 ·rename_i h1
  split at h
  ·exact .inl h
  split at h
  ·rcases List.mem_append.1 h with h|h
   ·exact .inl (List.mem_append_left _ h)
   simp at h;subst h;exact .inr (.inr ⟨rfl,rfl,h1⟩)
  rcases List.mem_append.1 h with h|h
  ·exact .inl h
  simp at h;subst h;exact .inr (.inr ⟨rfl,rfl,h1⟩)
 rcases List.mem_append.1 h with h|h
 ·exact .inl h
 simp at h;exact .inr (.inl h)
theorem fW{f:List It}{x:It}(h:x.1≠1):aP f x=f++[x]:=by unfold aP;rw[if_neg h]
theorem jS(f:List It)(x:It):aN (f++[x])=aN f++(if x.1=1 then x.2.1.map (λc=>((1:Int),[c],(0:Int)))else[x]):=by simp[aN]
theorem yL(f:List It)(t:List UInt8):aN (aP f (1,t,0))=aN f++t.map (λc=>((1:Int),[c],(0:Int))):=by
 rcases cG f with rfl|⟨a,b,rfl⟩
 ·rw[ek];simp only[if_true]
  split
  ·rename_i h;subst h;simp[aN]
  simp[aN]
 rw[cS];simp only[if_true]
 split
 ·rename_i h;subst h;simp
 split
 ·rename_i h1
  rw[jS,jS,if_pos h1];simp
 rw[jS (a++[b])];simp
theorem Im(t:List UInt8)(op:List It)(c:Nat):dY (t.map (λc=>((1:Int),[c],(0:Int)))) op c=some (op,c):=by
 induction t with
 | nil=>rfl
 | cons d t ih=>
  rw[List.map_cons,dY];simp only[stepT];exact ih
def ea(f:List It):Prop:=f.Pairwise λy x=>aJ x.1=true->bw x y=false
structure ix (f op:List It) (c:Nat):Prop where
 nm:Nm f
 items:∀x∈f,(x.1=1/\x.2.2=0)\/(x.1=5/\aB x.2.1=true/\x.2.2=0)\/((x.1=2\/x.1=4)/\aI x.2.1=true/\bu (nameOf x.2.1)=false/\1<=x.2.2/\x.2.2<=c)\/(x.1=3/\aB x.2.1=true/\bu x.2.1=false/\1<=x.2.2/\x.2.2<=c)
 bw:ea f
 ok:dY (aN f) [] 0=some (op,c)
 opens:∀o∈op,o.1=2/\o.2.1∈zg/\1<=o.2.2/\o.2.2<=c/\∀y∈f,aJ y.1=true->y.2.2=o.2.2->y=o
 apart:op.Pairwise λa b=>a.2.2≠b.2.2
theorem n6{x y:It}(h:y.2.2≠x.2.2):bw x y=false:=by unfold bw;simp[h]
theorem qH{x y:It}(h:aJ y.1=false):bw x y=false:=by unfold bw;simp[h]
theorem ff{f:List It}{x:It}(h:ea f)(hx:aJ x.1=true->∀y∈f,bw x y=false):ea (f++[x]):=by
 unfold ea;rw[List.pairwise_append];exact⟨h,by simp,λy hy z hz=>by simp at hz;subst hz;exact λht=>hx ht y hy⟩
theorem BG{f g:List It}(h:ea (f++g)):ea f:=(List.pairwise_append.1 h).1
theorem BI{f:List It}(h:ea f)(t:List UInt8):ea (aP f (1,t,0)):=by
 have hn:∀u:List UInt8,aJ ((1,u,0):It).1=true->False:=λu hu=>by simp[aJ]at hu
 rcases cG f with rfl|⟨a,b,rfl⟩
 ·rw[ek];simp only[if_true]
  split
  ·exact List.Pairwise.nil
  simp[ea]
 rw[cS];simp only[if_true]
 split
 ·exact h
 split
 ·exact ff (BG h) λhu=>(hn _ hu).elim
 exact ff h λhu=>(hn _ hu).elim
theorem FZ:ix [] [] 0:=⟨oE,(λ_ h=>by cases h),List.Pairwise.nil,rfl,(λ_ h=>by cases h),List.Pairwise.nil⟩
theorem CW{f op:List It}{c:Nat}(h:ix f op c)(t:List UInt8):ix (aP f (1,t,0)) op c:=by
 refine⟨fy h.nm _,λx hx=>?_,BI h.bw t,?_,λo ho=>?_,h.apart⟩
 ·rcases gf hx with hx|rfl|⟨h1,h2,_⟩
  ·exact h.items x hx
  ·exact .inl ⟨rfl,rfl⟩
  exact .inl ⟨h1,h2⟩
 ·rw[yL,je _ _ _ _ h.ok];exact Im _ _ _
 obtain⟨h1,h2,h3,h4,h5⟩:=h.opens o ho;refine⟨h1,h2,h3,h4,λy hy ht he=>?_⟩;rcases gf hy with hy|rfl|⟨g1,_,_⟩
 ·exact h5 y hy ht he
 ·simp[aJ]at ht
 rw[g1]at ht;simp[aJ]at ht
theorem CV{f op:List It}{c:Nat}(h:ix f op c)(t:List UInt8)(hn:aB t=true):ix (aP f (5,t,0)) op c:=by
 refine⟨fy h.nm _,λx hx=>?_,?_,?_,λo ho=>?_,h.apart⟩
 ·rcases gf hx with hx|rfl|⟨h1,h2,_⟩
  ·exact h.items x hx
  ·exact .inr (.inl ⟨rfl,hn,rfl⟩)
  exact .inl ⟨h1,h2⟩
 ·rw[fW (by simp)];exact ff h.bw λhu=>by simp[aJ]at hu
 ·rw[fW (by simp),jS,je _ _ _ _ h.ok];rfl
 obtain⟨h1,h2,h3,h4,h5⟩:=h.opens o ho;refine⟨h1,h2,h3,h4,λy hy ht he=>?_⟩;rcases gf hy with hy|rfl|⟨g1,_,_⟩
 ·exact h5 y hy ht he
 ·simp[aJ]at ht
 rw[g1]at ht;simp[aJ]at ht
theorem Hz{f op:List It}{c:Nat}(h:ix f op c):∀y∈f,y.2.2<=c:=by
 intro y hy;rcases h.items y hy with⟨_,h2⟩|⟨_,_,h2⟩|⟨_,_,_,_,h2⟩|⟨_,_,_,_,h2⟩<;>omega
theorem Bn{c:Nat}{x:It}(h:(x.1=1/\x.2.2=0)\/(x.1=5/\aB x.2.1=true/\x.2.2=0)\/((x.1=2\/x.1=4)/\aI x.2.1=true/\bu (nameOf x.2.1)=false/\1<=x.2.2/\x.2.2<=c)\/(x.1=3/\aB x.2.1=true/\bu x.2.1=false/\1<=x.2.2/\x.2.2<=c)) :
  (x.1=1/\x.2.2=0)\/(x.1=5/\aB x.2.1=true/\x.2.2=0)\/((x.1=2\/x.1=4)/\aI x.2.1=true/\bu (nameOf x.2.1)=false/\1<=x.2.2/\x.2.2<=((c+1:Nat):Int))\/(x.1=3/\aB x.2.1=true/\bu x.2.1=false/\1<=x.2.2/\x.2.2<=((c+1:Nat):Int)):=by
 rcases h with h|h|⟨h1,h2,h3,h4,h5⟩|⟨h1,h2,h3,h4,h5⟩
 ·exact .inl h
 ·exact .inr (.inl h)
 ·exact .inr (.inr (.inl ⟨h1,h2,h3,h4,by omega⟩))
 exact .inr (.inr (.inr ⟨h1,h2,h3,h4,by omega⟩))
theorem Ck{f op:List It}{c:Nat}(h:ix f op c)(t:List UInt8)(hn:t∈D9):ix (aP f (4,t,(c:Int)+1)) op (c+1):=by
 have aa:=Hz h;obtain⟨q1,q2⟩:=O0 hn;refine⟨fy h.nm _,λx hx=>?_,?_,?_,λo ho=>?_,h.apart⟩
 ·rcases gf hx with hx|rfl|⟨h1,h2,_⟩
  ·exact Bn (h.items x hx)
  ·exact .inr (.inr (.inl ⟨.inr rfl,q1,q2,by simp only;omega,by simp only;omega⟩))
  exact .inl ⟨h1,h2⟩
 ·rw[fW (by simp)];exact ff h.bw λ_ y hy=>n6 (by have:=aa y hy;simp only;omega)
 ·rw[fW (by simp),jS,je _ _ _ _ h.ok];simp[dY,stepT]
 obtain⟨h1,h2,h3,h4,h5⟩:=h.opens o ho;refine⟨h1,h2,h3,by omega,λy hy ht he=>?_⟩;rcases gf hy with hy|rfl|⟨g1,_,_⟩
 ·exact h5 y hy ht he
 ·simp only at he;omega
 rw[g1]at ht;simp[aJ]at ht
theorem CU{f op:List It}{c:Nat}(h:ix f op c)(t:List UInt8)(hn:t∈zg):ix (aP f (2,t,(c:Int)+1)) (op++[(2,t,(c:Int)+1)]) (c+1):=by
 have aa:=Hz h;obtain⟨q1,q2,q3⟩:=I2 hn;refine⟨fy h.nm _,λx hx=>?_,?_,?_,λo ho=>?_,?_⟩
 ·rcases gf hx with hx|rfl|⟨h1,h2,_⟩
  ·exact Bn (h.items x hx)
  ·exact .inr (.inr (.inl ⟨.inl rfl,q1,q2,by simp only;omega,by simp only;omega⟩))
  exact .inl ⟨h1,h2⟩
 ·rw[fW (by simp)];exact ff h.bw λ_ y hy=>n6 (by have:=aa y hy;simp only;omega)
 ·rw[fW (by simp),jS,je _ _ _ _ h.ok];simp[dY,stepT]
 ·rcases List.mem_append.1 ho with ho|ho
  ·obtain⟨h1,h2,h3,h4,h5⟩:=h.opens o ho;refine⟨h1,h2,h3,by omega,λy hy ht he=>?_⟩;rcases gf hy with hy|rfl|⟨g1,_,_⟩
   ·exact h5 y hy ht he
   ·simp only at he;omega
   rw[g1]at ht;simp[aJ]at ht
  simp at ho;subst ho;refine⟨rfl,hn,by simp only;omega,by simp only;omega,λy hy ht he=>?_⟩;rcases gf hy with hy|rfl|⟨g1,_,_⟩
  ·have:=aa y hy;simp only at he;omega
  ·rfl
  rw[g1]at ht;simp[aJ]at ht
 rw[List.pairwise_append];refine⟨h.apart,by simp,λa ha b hb=>?_⟩;simp at hb;subst hb;have:=(h.opens a ha).2.2.2.1
 simp only;omega
theorem Cj{f op:List It}{o:It}{c:Nat}(h:ix f (op++[o]) c):ix (aP f (3,nameOf o.2.1,o.2.2)) op c:=by
 obtain⟨o1,o2,o3,o4,o5⟩:=h.opens o (by simp);obtain⟨q1,q2,q3⟩:=I2 o2;have hap:=List.pairwise_append.1 h.apart;refine⟨fy h.nm _,λx hx=>?_,?_,?_,λp hp=>?_,hap.1⟩
 ·rcases gf hx with hx|rfl|⟨h1,h2,_⟩
  ·exact h.items x hx
  ·exact .inr (.inr (.inr ⟨rfl,q3,q2,o3,o4⟩))
  exact .inl ⟨h1,h2⟩
 ·rw[fW (by simp)];refine ff h.bw λ_ y hy=>?_
  cases ht:aJ y.1
  ·exact qH ht
  by_cases he:y.2.2=o.2.2
  ·have:=o5 y hy ht he
   subst this;unfold bw;simp[o1]
  exact n6 (by simpa using he)
 ·rw[fW (by simp),jS,je _ _ _ _ h.ok];simp[dY,stepT]
 obtain⟨h1,h2,h3,h4,h5⟩:=h.opens p (by simp[hp]);refine⟨h1,h2,h3,h4,λy hy ht he=>?_⟩;rcases gf hy with hy|rfl|⟨g1,_,_⟩
 ·exact h5 y hy ht he
 ·have:=hap.2.2 p hp o (by simp)
  simp only at he;exact absurd he.symm this
 rw[g1]at ht;simp[aJ]at ht
theorem JN{f op:List It}{c:Nat}(h:eH true f op c):ix f op c:=by
 induction h with
 | nil=>exact FZ
 | text t h ih=>exact CW ih t
 | slot t ht h ih=>exact CV ih t ht
 | empty t ht h ih=>exact Ck ih t ht
 | opened t ht h ih=>exact CU ih t ht
 | @closed f op c k hk hl h ih=>
  have hk2:=hl rfl;have e1:op.drop (k+1)=[]:=List.drop_of_length_le (by omega)
  have e2:op=op.take k++[op[k]]:=by
   conv=>lhs;rw[<-List.take_append_drop k op,List.drop_eq_getElem_cons hk,e1]
  rw[e1,List.append_nil];rw[e2]at ih;have:=Cj ih
  simpa using this
 | stray hn h ih=>cases hn
structure Pn (f:List It):Prop where
 nm:Nm f
 items:∀x∈f,nD x
 bw:ea f
 ok:∃c,dY (aN f) [] 0=some ([],c)
theorem G1{f:List It}{c:Nat}(h:eH true f [] c)(hc:c<=999):Pn f:=by
 have hi:=JN h;refine⟨hi.nm,λx hx=>?_,hi.bw,c,hi.ok⟩;rcases hi.items x hx with h|h|⟨h1,h2,h3,h4,h5⟩|⟨h1,h2,h3,h4,h5⟩
 ·exact .inl h
 ·exact .inr (.inl h)
 ·exact .inr (.inr (.inl ⟨h1,h2,h3,h4,by omega⟩))
 exact .inr (.inr (.inr ⟨h1,h2,h3,h4,by omega⟩))
theorem Kt{f:List It}(h:∀x∈f,nD x):∀p∈aN f,r5 p:=by
 intro p hp;unfold aN at hp;obtain⟨x,hx,hp⟩:=List.mem_flatMap.1 hp;have hg:=h x hx
 split at hp
 ·obtain⟨c,_,rfl⟩:=List.mem_map.1 hp;exact .inl ⟨c,rfl⟩
 rename_i h1
 simp at hp;subst hp;obtain⟨k,t,i⟩:=p;simp only[nD]at hg h1;rcases hg with⟨g,_⟩|⟨rfl,g,rfl⟩|⟨rfl|rfl,g1,g2,_⟩|⟨rfl,g1,g2,_⟩
 ·exact absurd g h1
 ·exact .inr (.inl ⟨t,rfl,g⟩)
 ·exact .inr (.inr (.inl ⟨t,i,.inl rfl,g1,g2⟩))
 ·exact .inr (.inr (.inl ⟨t,i,.inr rfl,g1,g2⟩))
 exact .inr (.inr (.inr ⟨t,i,rfl,g1,g2⟩))
end Go.Proofs.YthoemdibbldndaaGreatDoor.St
namespace Go.Proofs.YthoemdibbldndaaGreatDoor.St
def r4(b R:List UInt8):Prop:=∀t j,j<R.length->Lib.occAt (R++t) (df b) j=false
theorem MH(b:List UInt8):r4 b []:=λt j h=>by simp at h
theorem MG{b R S:List UInt8}(h:r4 b R)(k:r4 b S):r4 b (R++S):=by
 intro t j hj
 by_cases hlt:j<R.length
 ·rw[List.append_assoc];exact h _ j hlt
 have:=k t (j-R.length) (by rw[List.length_append]at hj;omega)
 unfold Lib.occAt at this |-;rw[List.append_assoc,List.drop_append,List.drop_of_length_le (by omega),List.nil_append];exact this
theorem oF{b R:List UInt8}(h:∀c∈R,c.toNat≠60):r4 b R:=by
 intro t j hj;unfold Lib.occAt
 have e:(R++t).drop j=R[j] :: (R++t).drop (j+1):=by
  rw[List.drop_eq_getElem_cons (by simp;omega),List.getElem_append_left hj]
 rw[e];have hc:=h R[j] (List.getElem_mem hj)
 show((60:UInt8)==R[j]&&_)=false
 have:((60:UInt8)==R[j])=false:=by
  rw[beq_eq_false_iff_ne];intro e;rw[<-e]at hc;exact hc rfl
 rw[this];rfl
theorem xg{b u:List UInt8}(hb:bu b=true)(hu:∀c∈u,c.toNat≠62/\c.toNat≠60)(h:u≠47 :: b):r4 b ([60]++u++[62]):=by
 intro t j hj;cases j with
 | zero=>
  rw[Bool.eq_false_iff];intro e;unfold Lib.occAt at e;rw[List.drop_zero]at e;obtain⟨x,hx⟩:=List.isPrefixOf_iff_prefix.1 e
  have AL:∀c∈b,c.toNat≠62:=by
   unfold bu at hb;rw[decide_eq_true_eq]at hb;rcases hb with rfl|rfl|rfl|rfl|rfl<;>intro c hc<;>simp at hc<;>rcases hc with rfl|rfl|rfl|rfl|rfl<;>decide
  have e2:u++62 :: t=47 :: b++62 :: x:=by
   have:(60:UInt8) :: (u++62 :: t)=60 :: (47 :: b++62 :: x):=by simpa[df]using hx.symm
   simpa using this
  have tw:∀(v w:List UInt8),(∀c∈v,c.toNat≠62)->(v++62 :: w).takeWhile (λc=>decide (c.toNat≠62))=v:=λv w hv=>by
   rw[List.takeWhile_append_of_pos (λc hc=>decide_eq_true (hv c hc)),List.takeWhile_cons_of_neg (by simp)];simp
  have:=congrArg (List.takeWhile (λc:UInt8=>decide (c.toNat≠62))) e2
  rw[tw u t (λc hc=>(hu c hc).1),tw (47 :: b) x (λc hc=>by rcases List.mem_cons.1 hc with rfl|hc;decide;exact AL c hc)]at this;exact h this
 | succ j=>
  have hf:=oF (b:=b) (R:=u++[62]) (λc hc=>by
   rcases List.mem_append.1 hc with hc|hc
   ·exact(hu c hc).2
   simp at hc;subst hc;decide)
  have:=hf t j (by simp at hj |-;omega)
  unfold Lib.occAt at this |-;simpa using this
def zD(p:It)(b:List UInt8):Prop:=b=aH 1 p\/(p=(1,[62],0)/\b=[38,103,116,59])\/(p=(1,[125],0)/\b=[38,114,98,59])
theorem Cu{p:It}{b:List UInt8}(h:r5 p)(hf:zD p b):jE bS b p:=by
 rcases hf with rfl|⟨rfl,rfl⟩|⟨rfl,rfl⟩
 ·exact Fv h
 ·exact JT
 exact Kw
theorem JA(c:UInt8):∀d∈bh 1 c,d.toNat≠60:=by
 unfold bh;rw[if_pos rfl];intro d hd
 split at hd
 ·simp at hd;rcases hd with rfl|rfl|rfl|rfl<;>decide
 split at hd
 ·simp at hd;rcases hd with rfl|rfl|rfl|rfl|rfl<;>decide
 split at hd
 ·simp at hd;rcases hd with rfl|rfl|rfl|rfl<;>decide
 rename_i h _ _
 simp at hd;subst hd;exact h
theorem GX{b:List UInt8}(hb:bu b=true){p:It}{R:List UInt8}(h:r5 p)(hf:zD p R):r4 b R:=by
 rcases hf with rfl|⟨rfl,rfl⟩|⟨rfl,rfl⟩
 ·rcases h with⟨c,rfl⟩|⟨t,rfl,ht⟩|⟨t,i,rfl|rfl,ht,hn⟩|⟨t,i,rfl,ht,hn⟩
  ·have e:aH 1 (1,[c],0)=bh 1 c:=by simp[aH]
   rw[e];exact oF (JA c)
  ·have e:aH 1 (5,t,0)=[123]++t++[125]:=by simp[aH]
   rw[e];refine oF λc hc=>?_
   simp at hc;rcases hc with rfl|hc|rfl
   ·decide
   ·exact(qn ht c hc).2.1
   decide
  ·have e:aH 1 (2,t,i)=[60]++t++[62]:=by simp[aH]
   rw[e];exact xg hb (ly ht) (λe=>(lz ht).2.1 (by rw[e];rfl))
  ·have e:aH 1 (4,t,i)=[60]++(t++[47])++[62]:=by simp[aH]
   rw[e];refine xg hb (λc hc=>?_) (λe=>?_)
   ·rcases List.mem_append.1 hc with hc|hc
    ·exact ly ht c hc
    simp at hc;subst hc;decide
   obtain⟨h0,h1,_⟩:=lz ht;cases t with
   | nil=>exact h0 rfl
   | cons c r=>simp at e;simp[e.1]at h1
  have e:aH 1 (3,t,i)=[60]++(47 :: t)++[62]:=by simp[aH]
  rw[e];refine xg hb (λc hc=>?_) (λe=>?_)
  ·rcases List.mem_cons.1 hc with rfl|hc
   ·decide
   have:=qn ht c hc;exact⟨this.1,this.2.1⟩
  simp at e;subst e;rw[hb]at hn;cases hn
 ·exact oF (by simp)
 exact oF (by simp)
theorem AH{b:List UInt8}(hb:bu b=true):∀ {ps:List (List UInt8 × It)},(∀q∈ps,r5 q.2/\zD q.2 q.1)->r4 b (bt ps)
 | [],_=>MH b
 | p :: ps,h=>MG (GX hb (h p (by simp)).1 (h p (by simp)).2) (AH hb λq hq=>h q (by simp[hq]))
theorem Fi{b R:List UInt8}(h:r4 b R)(t:List UInt8):Lib.index (R++(df b++t)) (df b)=(R.length:Int):=by
 refine Lib.index_first (by simp) ?_ λj hj=>h _ j hj
 unfold Lib.occAt;rw[List.drop_left];exact List.isPrefixOf_iff_prefix.2 (List.prefix_append _ _)
theorem FA{b at' rest:List UInt8}(hb:bu b=true)(hc:aI (b++at')=true)(hn:nameOf (b++at')=b):dv ([60]++(b++at')++[62]++rest)=some ((b++at').length+2,b):=by
 have h1:=wv (rest:=rest) (λc hcc=>(ly hc c hcc).1) (yZ hc);have hh:([60]++(b++at')++[62]++rest).head?=some 60:=by simp
 have hp:([60,33,45,45]:List UInt8).isPrefixOf ([60]++(b++at')++[62]++rest)=false:=by
  rw[Bool.eq_false_iff];intro e;rw[vl e]at h1;cases h1
 rw[mq hh hp,h1];simp only;rw[hn,if_pos hb];simp
def jd(r:Nat):List UInt8:=if r=0 then[112]else if r=1 then[108,105]else[116,105,116,108,101]
def nF(r:Nat):List UInt8:=if r=0 then[]else[32,99,61,34,49,34]
def kF(r:Nat):List UInt8:=if r=0 then[]else if r=1 then[10]else[60,104,114,47,62]
def iZ(h:Nat):List UInt8:=if h=0 then[]else if h=1 then[60,104,116,109,108,62]else[60,33,45,45,32,60,112,62,32,45,45,62,120]
theorem Kl(r q:Nat):bu (jd r)=true/\aI (jd r++nF q)=true/\nameOf (jd r++nF q)=jd r:=by
 unfold jd nF
 by_cases h0:r=0<;>by_cases h1:r=1<;>by_cases h2:q=0<;>simp only[h0,h1,h2,if_true,if_false]<;>decide
section
variable {dE:List UInt8->Nat × Int} {dig:Nat->List UInt8} {d:List UInt8}
theorem o0{d x y:List UInt8}{a:Nat}(h:d.drop a=x++y):d.drop (a+x.length)=y:=by rw[<-List.drop_drop,h,List.drop_left]
theorem nR{d x:List UInt8}{a:Nat}(h:d.drop a=x)(h0:x≠[]):¬d.length<=a:=by
 intro e;rw[List.drop_of_length_le e]at h;exact h0 h.symm
theorem Ax{d x y:List UInt8}{a:Nat}(h:d.drop a=x++y):aY d a (a+x.length)=x:=by
 unfold aY;rw[List.drop_take,h,show a+x.length-a=x.length by omega,List.take_left]
def nz(dE:List UInt8->Nat × Int)(dig:Nat->List UInt8)(d:List UInt8)(a r:Nat)(s:PS):Except (Nat × Int) PS:=ej dE dig d (d.length-a) a r s
theorem Bx{fuel a r:Nat}{s:PS}(h:d.length-a<=fuel):ej dE dig d fuel a r s=nz dE dig d a r s:=uC _ _ _ _ _ h (Nat.le_refl _)
theorem MB{a r:Nat}{s:PS}(h:d.length<=a):nz dE dig d a r s=.ok s:=iH h
theorem AK{d:List UInt8}{a:Nat}(h:¬d.length<=a):∃m,d.length-a=m+1/\∀n,1<=n->d.length-(a+n)<=m:=⟨d.length-a-1,by omega,λn hn=>by omega⟩
theorem oC{a r n:Nat}{s:PS}(h:¬d.length<=a)(h1:dv (d.drop a)=some (n,[])):nz dE dig d a r s=nz dE dig d (a+n) r s:=by
 obtain⟨m,hm,h2⟩:=AK h;have hn:=ra h1 (pH h)
 conv=>lhs;unfold nz
 rw[hm,jc h h1];exact Bx (h2 n hn.1)
theorem Kj{a r n j:Nat}{b:List UInt8}{s:PS}(h:¬d.length<=a)(h1:dv (d.drop a)=some (n,b))(hb:b≠[])(hj:Lib.index (d.drop (a+n)) (df b)=(j:Int))(he:(dE (aY d (a+n) (a+n+j))).2=0) :
  nz dE dig d a r s=nz dE dig d (a+n+j+(b.length+3)) (r+1) (bg d s (a+n) (a+n+j) (dig (r+1))):=by
 obtain⟨m,hm,h2⟩:=AK h
 conv=>lhs;unfold nz
 rw[hm,kU h h1 hb hj he];refine Bx ?_;have:=h2 (n+j+(b.length+3)) (by omega)
 omega
theorem IU(h:¬65536<d.length):gU dE dig d=jx d (nz dE dig d 0 0 ([],0)):=by
 rw[pw h,Bx (by omega)]
theorem I8{b raw R:List UInt8}{at':List UInt8}(hb:bu b=true)(hc:aI (b++at')=true)(hn:nameOf (b++at')=b)(hq:r4 b raw)(he:(dE raw).2=0){a r:Nat}{s:PS}
  (hd:d.drop a=[60]++(b++at')++[62]++(raw++(df b++R))):nz dE dig d a r s=nz dE dig d (a+((b++at').length+2)+raw.length+(b.length+3)) (r+1) (bg d s (a+((b++at').length+2)) (a+((b++at').length+2)+raw.length) (dig (r+1))) /\
   d.drop (a+((b++at').length+2)+raw.length+(b.length+3))=R/\aY d (a+((b++at').length+2)) (a+((b++at').length+2)+raw.length)=raw:=by
 have h1:dv (d.drop a)=some ((b++at').length+2,b):=by rw[hd];exact FA hb hc hn
 have hl:=nR hd (by simp)
 have hd1:d.drop (a+((b++at').length+2))=raw++(df b++R):=by
  have:=o0 hd
  rw[<-this];congr 1;simp;omega
 have hcut:=Ax hd1;have hj:Lib.index (d.drop (a+((b++at').length+2))) (df b)=(raw.length:Int):=by rw[hd1];exact Fi hq R
 refine⟨Kj hl h1 (sc hb).1 hj (by rw[hcut];exact he),?_,hcut⟩;have:=o0 (o0 hd1)
 rw[<-this];congr 1;simp[df]
theorem I0{a r q:Nat}{s:PS}{R:List UInt8}(hq:q<3)(hd:d.drop a=kF q++R):nz dE dig d a r s=nz dE dig d (a+(kF q).length) r s/\d.drop (a+(kF q).length)=R:=by
 refine⟨?_,o0 hd⟩;rcases(show q=0\/q=1\/q=2 by omega)with rfl|rfl|rfl
 ·rfl
 ·exact oC (nR hd (by simp[kF])) (by rw[hd];exact qo (by simp[kF]))
 refine oC (nR hd (by simp[kF])) ?_;rw[hd]
 show dv (60 :: 104 :: 114 :: 47 :: 62 :: R)=some (5,[])
 rw[mq rfl rfl];have:=wv (t:=[104,114,47]) (rest:=R) (k:=4) (u:=[104,114]) (by decide) (by decide)
 have e:([60]++[104,114,47]++[62]++R:List UInt8)=60 :: 104 :: 114 :: 47 :: 62 :: R:=rfl;rw[e]at this;rw[this];rfl
theorem mR{h r:Nat}{s:PS}{R:List UInt8}(hh:h<3)(hd:d=iZ h++R):nz dE dig d 0 r s=nz dE dig d (iZ h).length r s/\d.drop (iZ h).length=R:=by
 have hd0:d.drop 0=iZ h++R:=by rw[List.drop_zero];exact hd
 refine⟨?_,by rw[hd,List.drop_left]⟩;rcases(show h=0\/h=1\/h=2 by omega)with rfl|rfl|rfl
 ·rfl
 ·have ho:dv (d.drop 0)=some (6,[]):=by
   rw[hd0]
   show dv (60 :: 104 :: 116 :: 109 :: 108 :: 62 :: R)=some (6,[])
   rw[mq rfl rfl];have:=wv (t:=[104,116,109,108]) (rest:=R) (k:=2) (u:=[104,116,109,108]) (by decide) (by decide)
   have e:([60]++[104,116,109,108]++[62]++R:List UInt8)=60 :: 104 :: 116 :: 109 :: 108 :: 62 :: R:=rfl;rw[e]at this;rw[this];rfl
  rw[oC (nR hd0 (by simp[iZ])) ho];rfl
 have hi:Lib.index ([32,60,112,62,32,45,45,62,120]++R) [45,45,62]=((5:Nat):Int):=by
  refine Lib.index_first (by simp) (by rfl) λj hj=>?_
  rcases(show j=0\/j=1\/j=2\/j=3\/j=4 by omega)with rfl|rfl|rfl|rfl|rfl<;>rfl
 have ho:dv (d.drop 0)=some (12,[]):=by
  rw[hd0,q8 (by rfl)]
  show(if Lib.index ([32,60,112,62,32,45,45,62,120]++R) [45,45,62]<0 then none else some ((Lib.index ([32,60,112,62,32,45,45,62,120]++R) [45,45,62]).toNat+7,[]))=_
  rw[hi];rfl
 have hd1:d.drop 12=120 :: R:=by rw[hd];rfl
 rw[oC (nR hd0 (by simp[iZ])) ho,show 0+12=12 from rfl,oC (nR hd1 (by simp)) (by rw[hd1];exact qo (by simp))];rfl
end
end Go.Proofs.YthoemdibbldndaaGreatDoor.St
