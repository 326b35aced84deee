/- The contract of markup's tag: what it gives is St.tagL. -/
import Derived.Test.YthoemdibbldndaaGreatDoorMkNm
import Derived.BigRegion
import Derived.Test.YthoemdibbldndaaGreatDoorFct
import Derived.Test.YthoemdibbldndaaGreatDoorGD
import Derived.Lib.IndexLaws
import Derived.Deep.RegionLaw
import Derived.Outline
import Derived.WalkSmall
import Derived.Test.YthoemdibbldndaaGreatDoorPart
set_option linter.all false
set_option maxHeartbeats 0
set_option maxRecDepth 20000
open Go.Value renaming int->Yp,string->Yq,slice->Yr,bool->Ys,pointer->Yt,tuple->Yu
open Go.IntKind renaming i64->Yv
open Go.Obj renaming cells->Yw
open Go.Ending renaming returned->Yx
open Go renaming World->YA
namespace Go.Proofs.YthoemdibbldndaaGreatDoor
open Go.RowKit
namespace St
theorem wu:∀l:List UInt8,Lib.indexByte l 62=if(l.takeWhile (λc=>decide (c.toNat≠62))).length<l.length then((l.takeWhile (λc=>decide (c.toNat≠62))).length:Int)else -1
 | []=>rfl
 | c :: l=>by
  unfold Lib.indexByte
  by_cases h:c.toNat=62
  ·have h2:c=62:=by apply UInt8.toNat_inj.1;simpa using h
   subst h2;simp
  have h2:¬c=62:=λe=>h (by rw[e];rfl)
  have h3:(c==62)=false:=by simpa using h2
  rw[h3,wu l,List.takeWhile_cons_of_pos (by simpa using h),List.length_cons];simp only[List.length_cons,Bool.false_eq_true,if_false]
  by_cases h4:(l.takeWhile (λc=>decide (c.toNat≠62))).length<l.length
  ·rw[if_pos h4,if_neg (by simp<;>omega),if_pos (by omega)];try simp
  rw[if_neg h4,if_pos (by simp),if_neg (by omega)]
theorem BW{l:List UInt8}(h:¬(df l).length+1<l.length):gh l=none:=by unfold gh;rw[if_neg h]
theorem BX{l:List UInt8}(h:(df l).length+1<l.length):gh l=(eX (df l)).map λx=>(x.1,x.2,(df l).length+2):=by unfold gh;rw[if_pos h]
theorem OR(l:List UInt8):([47]:List UInt8).isPrefixOf l=decide (l.head?=some 47):=by
 cases l with
 | nil=>rfl
 | cons c r=>
  simp[List.isPrefixOf];rw[Bool.eq_iff_iff,beq_iff_eq,decide_eq_true_iff];exact eq_comm
end St
def xq(R:St.El)(w:YA)(e:Ending)(w':YA):Prop:=ac w w'/\match R with
 | some (k,t,n)=>e=Yx (Yu #[.agg #[Yp Yv k,Yq ⟨t.toArray⟩,Yp Yv 0],Yp Yv n,Ys true])
 | none=>∃(k:Int) (x:ByteArray) (m:Int),e=Yx (Yu #[.agg #[Yp Yv k,Yq x,Yp Yv 0],Yp Yv m,Ys false])
theorem qR{R:St.El}{w w':YA}{k:Int}{t:List UInt8}{n:Nat}{x:ByteArray}{m:Int}(hR:R=some (k,t,n))(hx:x.1.1=t)(hm:m=n)(hu:ac w w'):xq R w (Yx (Yu #[.agg #[Yp Yv k,Yq x,Yp Yv 0],Yp Yv m,Ys true])) w':=by
 subst hm hx hR;exact⟨hu,by simp only[bo]⟩
theorem nB{R:St.El}{w w':YA}{k:Int}{x:ByteArray}{m:Int}(hR:R=none)(hu:ac w w'):xq R w (Yx (Yu #[.agg #[Yp Yv k,Yq x,Yp Yv 0],Yp Yv m,Ys false])) w':=by
 subst hR;exact⟨hu,_,_,_,rfl⟩
theorem Ed(s:ByteArray)(w:YA)(hs:s.size<=4611686018427387904)(h0:0<s.size)(lR:s[0].toNat=60) :
  Calls Tryz.prog 166 #[Yq s] w (xq (St.gh s.1.1) w):=by
 have hcr:s.1.1=s[0] :: s.1.1.drop 1:=St.fF s h0;have hlen:=St.aB s
 have fi:s.1.1.takeWhile (λc=>decide (c.toNat≠62))=s[0] :: St.df s.1.1:=by
  conv=>lhs;rw[hcr]
  rw[List.takeWhile_cons_of_pos (by simp[lR])];rfl
 have bS:=λW=>Tryz.strings_IndexByte s 62 W
 have Dn:(62:Int).toNat.toUInt8=62:=rfl;rw[Dn,St.wu,fi,List.length_cons]at bS;have hpre:St.df s.1.1=(s.1.1.drop 1).take (St.df s.1.1).length:=List.prefix_iff_eq_take.1 (List.takeWhile_prefix _)
 by_cases hlt:(St.df s.1.1).length+1<s.1.1.length
 rotate_left 1
 ·have hR:=aa (St.BW hlt);rw[if_neg hlt]at bS;have ey:=aa bS;clear bS hlt hpre fi hcr hlen Dn;go_enter Tryz.func166,Tryz.ntmps166;go_wp2_with fail;refine(ey.out _).mono ?_;rintro e w' ⟨rfl,rfl⟩;go_wp2;refine bodyPost_ret (v:=Yu #[.agg #[Yp Yv 0,Yq ⟨#[]⟩,Yp Yv 0],Yp Yv 0,Ys false]) (by simp[results,Tryz.results166,go_sem]) rfl ?_;exact nB hR.out uZ
 have hT:=St.BX hlt;rw[if_pos hlt]at bS;rw[hlen]at hlt;obtain⟨m,hm⟩:∃m,(St.df s.1.1).length=m:=⟨_,rfl⟩;obtain⟨x,hX⟩:∃x,s.extract 1 (m+1)=x:=⟨_,rfl⟩;have hxl:x.1.1=St.df s.1.1:=by rw[hpre,hm,<-hX,Lib.extract_data];simp
 rw[hm]at hT bS hlt;rw[<-hxl]at hT;have hxs:x.size=m:=by rw[<-St.aB,hxl,hm]
 have WG:x.size<=m:=by omega
 have vx:m<=x.size:=by omega
 have XV:IntKind.i64.wrap ((m:Int)+1+1)=(m:Int)+1+1:=IntWalk.i64_in _ (by omega);clear hpre fi hcr hlen Dn hxl hm hxs;have z1:(1:Int)<=(m:Int)+1:=by omega
 have z2:(m:Int)+1<=(s.size:Int):=by omega
 have z3:¬(m:Int)+1<1:=by omega
 have qc:(((m+1:Nat):Int))=(m:Int)+1:=by omega
 rw[qc]at bS;have ey:=aa bS;have hp:=λW=>jt x ⟨#[47]⟩ W (by omega) (by show 1<=_;omega)
 have hpe:preB ⟨#[47]⟩ x=decide (x.1.1.head?=some 47):=St.OR _;rw[hpe]at hp;have Bl:=λW=>Ig x W (by omega)
 unfold rJ at Bl;clear bS hpe qc
 by_cases b1:x.1.1.head?=some 47
 ·have hx1:1<=x.size:=by
   rw[<-St.aB];cases hq:x.1.1 with
   | nil=>rw[hq]at b1;cases b1
   | cons c r=>simp
  obtain⟨y,hY⟩:∃y,x.extract 1 x.size=y:=⟨_,rfl⟩;have iW:y.1.1=x.1.1.drop 1:=by rw[<-hY,Lib.extract_data,List.take_of_length_le (by simp)]
  have hys:y.size<=x.size:=by rw[<-hY];simp
  have hI:St.eX x.1.1=if St.aF y.1.1 then some (3,y.1.1)else none:=by
   unfold St.eX;rw[if_pos b1,iW]
  rw[hI]at hT;have bh:=λW=>kI y W (by omega)
  rw[decide_eq_true b1]at hp;have HP:=aa hp;have y1:(1:Int)<=(x.size:Int):=by omega
  have y2:1<=x.size:=hx1;clear hp Bl hI b1 iW
  generalize St.aF y.1.1=vb at hT bh;have HT:=aa hT;have bz:=aa bh;clear hT bh;go_enter Tryz.func166,Tryz.ntmps166;go_wp2_with fail;refine(ey.out _).mono ?_;rintro e w' ⟨rfl,rfl⟩;go_wp2_with fail;refine(HP.out _).mono ?_;rintro e w' ⟨rfl,rfl⟩;go_wp2_with fail;go_region;go_wp2_with fail;refine bZ (λ_ _=>True) (λL W=>ac w W/\W.1[w.1.size+1]?=some (Yw #[Yp Yv 3,Yq y,Yp Yv 0] 36 (0,0))/\W.1[w.1.size]?=some (Yw #[if L 6=true then Yp Yv 3 else Yp Yv 0,if L 6=true then Yq y else Yq ⟨#[]⟩,Yp Yv 0] 36 (0,0))) ([λv _=>v=.agg #[Yp Yv 3,Yq y,Yp Yv 0],λv _=>v=Yp Yv ((m:Int)+1),λv _=>v=Yp Yv ((m:Int)+1+1),λv _=>v=Yt (some ⟨w.1.size+1,1,none⟩),λv _=>v=Yq y,λv _=>v=Ys vb,λ_ _=>True,λv _=>v=Yp Yv ((m:Int)+1+1),λv _=>v=Ys vb]) (λ_=>trivial) (λ_ _ _ _ _=>trivial) (by kernel_rfl) (by rfl) (by kernel_rfl) (by kernel_rfl) ?_ ?_ ?_ ?_ ?_;rotate_left 1
  ·intro ρ;simp only[cf,Act.put,ax,aw,ay,Nat.zero_add,Nat.reduceAdd];exact rfl
  ·exact⟨uZ,bG _ _ _ (by simp),(fB _ _ _ (by simp)).trans (bG _ _ _ rfl)⟩
  ·refine aq.cons (λρ L W hR hI hL hD hO hF K hK=>?_) ?_
   ·clear hF hD hO hR;simp only[Act.put,ax,aw,ay]at hK |-;have c0:W.cell? ⟨w.1.size+1,0,none⟩=_:=aj hI.2.1 0;have c1:W.cell? ⟨w.1.size+1,1,none⟩=_:=aj hI.2.1 1;have c2:W.cell? ⟨w.1.size+1,2,none⟩=_:=aj hI.2.1 2;go_simp;refine hK _ _ trivial (by simpa[ar]using hI) (λ_ _=>rfl)
   refine aq.cons (λρ L W hR hI hL hD hO hF K hK=>?_) ?_
   ·clear hF hD hO hR;simp only[Act.put,ax,aw,ay]at hK |-;go_simp;refine hK _ _ trivial (by simpa[ar]using hI) (λ_ _=>rfl)
   refine aq.cons (λρ L W hR hI hL hD hO hF K hK=>?_) ?_
   ·have f1:=ag hF (j:=1) (by decide);clear hF hD hO hR;simp only[Act.put,ax,aw,ay]at hK |-;have e1:ρ 1=Yp Yv ((m:Int)+1):=f1;rw[e1]at hK |-;go_simp;refine hK _ _ trivial (by simpa[ar]using hI) (λ_ _=>rfl)
   refine aq.cons (λρ L W hR hI hL hD hO hF K hK=>?_) ?_
   ·clear hF hD hO hR;simp only[Act.put,ax,aw,ay]at hK |-;go_simp;refine hK _ _ trivial (by simpa[ar]using hI) (λ_ _=>rfl)
   refine aq.cons (λρ L W hR hI hL hD hO hF K hK=>?_) ?_
   ·have f3:=ag hF (j:=3) (by decide);clear hF hD hO hR;simp only[Act.put,ax,aw,ay]at hK |-;have e3:ρ 3=Yt (some ⟨w.1.size+1,1,none⟩):=f3;rw[e3]at hK |-;have c1:W.cell? ⟨w.1.size+1,1,none⟩=_:=aj hI.2.1 1;go_simp;refine hK _ _ trivial (by simpa[ar]using hI) (λ_ _=>rfl)
   refine aq.cons (λρ L W hR hI hL hD hO hF K hK=>?_) ?_
   ·have f4:=ag hF (j:=4) (by decide);clear hF hD hO hR;simp only[Act.put,ax,aw,ay]at hK |-;have e4:ρ 4=Yq y:=f4;rw[e4]at hK |-;go_simp;go_at_call 149;refine(bz.out _).mono ?_;rintro e W2 ⟨rfl,rfl⟩;exact hK _ _ trivial (by simpa[ar]using hI) (λ_ _=>rfl)
   refine aq.cons (λρ L W hR hI hL hD hO hF K hK=>?_) ?_
   ·have f0:=ag hF (j:=0) (by decide);clear hF hD hO hR;simp only[Act.put]at hK |-;have e0:ρ 0=.agg #[Yp Yv 3,Yq y,Yp Yv 0]:=f0;rw[e0]at hK |-;have hlt:=ae hI.2.2;haveI:af w.1.size W:=af.of hlt;have hbb:W.1[w.1.size]?=some (Yw #[if L 6=true then Yp Yv 3 else Yp Yv 0,if L 6=true then Yq y else Yq ⟨#[]⟩,Yp Yv 0] 36 (0,0)):=hI.2.2;rw[hL]at hbb;have c0:W.cell? ⟨w.1.size,0,none⟩=_:=aj hbb 0;have c1:W.cell? ⟨w.1.size,1,none⟩=_:=aj hbb 1;have c2:W.cell? ⟨w.1.size,2,none⟩=_:=aj hbb 2;have p0:=bu hbb 0;have p1:=bu hbb 1;have p2:=bu hbb 2;go_simp;refine hK undef _ trivial ⟨((hI.1.setCell (p:=⟨w.1.size,0,none⟩) (Nat.le_refl _) _).setCell (p:=⟨w.1.size,1,none⟩) (Nat.le_refl _) _).setCell (p:=⟨w.1.size,2,none⟩) (Nat.le_refl _) _,?_,?_⟩ (λ_ _=>trivial)
    ·rw[heap_setCell_other _ _ _ _ (by simp),heap_setCell_other _ _ _ _ (by simp),heap_setCell_other _ _ _ _ (by simp)];exact hI.2.1
    simp only[ar,if_true];exact heap_setCell_same _ _ 2 _ _ _ (heap_setCell_same _ _ 1 _ _ _ (heap_setCell_same _ _ 0 _ _ _ hbb))
   refine aq.cons (λρ L W hR hI hL hD hO hF K hK=>?_) ?_
   ·have f2:=ag hF (j:=2) (by decide);clear hF hD hO hR;simp only[Act.put,ax,aw,ay]at hK |-;have e2:ρ 2=Yp Yv ((m:Int)+1+1):=f2;rw[e2]at hK |-;go_simp;refine hK _ _ trivial (by simpa[ar]using hI) (λ_ _=>rfl)
   refine aq.cons (λρ L W hR hI hL hD hO hF K hK=>?_) ?_
   ·have f5:=ag hF (j:=5) (by decide);clear hF hD hO hR;simp only[Act.put,ax,aw,ay]at hK |-;have e5:ρ 5=Ys vb:=f5;rw[e5]at hK |-;go_simp;refine hK _ _ trivial (by simpa[ar]using hI) (λ_ _=>rfl)
   exact aq.nil
  intro ρ L W hR hI hL hF;obtain⟨_,_,_,_,_,_,_,g7,g8,_⟩:=hF;have g7:ρ 7=Yp Yv ((m:Int)+1+1):=g7;have g8:ρ 8=Ys vb:=g8;rw[g7,g8];clear g7 g8 hR;have hbb:=hI.2.2;rw[hL 6 (by decide)]at hbb;simp only[if_true]at hbb;have c0:W.cell? ⟨w.1.size,0,none⟩=_:=aj hbb 0;have c1:W.cell? ⟨w.1.size,1,none⟩=_:=aj hbb 1;have c2:W.cell? ⟨w.1.size,2,none⟩=_:=aj hbb 2;have HU:=aa hI.1;clear hI hL hbb;go_wp2;refine bodyPost_ret (v:=Yu #[.agg #[Yp Yv 3,Yq y,Yp Yv 0],Yp Yv ((m:Int)+1+1),Ys vb]) (by simp[results,Tryz.results166,go_sem,c0,c1,c2]) rfl ?_;cases vb
  ·exact nB HT.out HU.out
  exact qR HT.out rfl (by omega) HU.out
 rw[decide_eq_false b1]at hp;have HP:=aa hp
 by_cases b2:x.1.1.getLast?=some 47
 ·have hx1:1<=x.size:=by
   rw[<-St.aB];cases hq:x.1.1 with
   | nil=>rw[hq]at b2;cases b2
   | cons c r=>simp
  obtain⟨y,hY⟩:∃y,x.extract 0 (x.size-1)=y:=⟨_,rfl⟩;have iW:y.1.1=x.1.1.dropLast:=by rw[<-hY,Lib.extract_data,List.dropLast_eq_take,St.aB];simp
  have hys:y.size<=x.size:=by rw[<-hY];simp
  have hI:St.eX x.1.1=if St.aM y.1.1 then some (4,y.1.1)else none:=by
   unfold St.eX;rw[if_neg b1,if_pos b2,iW]
  rw[hI]at hT;have bh:=λW=>pv y W (by omega)
  rw[decide_eq_true b2]at Bl;have Qz:=aa Bl;have y1:(x.size:Int)-1=((x.size-1:Nat):Int):=by omega
  have y2:(1:Int)<=(x.size:Int):=by omega
  have y3:(0:Int)<=(x.size:Int)-1:=by omega
  clear hp Bl hI b1 b2 iW
  generalize St.aM y.1.1=vb at hT bh;have HT:=aa hT;have bz:=aa bh;clear hT bh;go_enter Tryz.func166,Tryz.ntmps166;go_wp2_with fail;refine(ey.out _).mono ?_;rintro e w' ⟨rfl,rfl⟩;go_wp2_with fail;refine(HP.out _).mono ?_;rintro e w' ⟨rfl,rfl⟩;go_wp2_with fail;refine(Qz.out _).mono ?_;rintro e w' ⟨rfl,rfl⟩;go_wp2_with fail;go_region;go_wp2_with fail;refine bZ (λ_ _=>True) (λL W=>ac w W/\W.1[w.1.size+1]?=some (Yw #[Yp Yv 4,Yq y,Yp Yv 0] 36 (0,0))/\W.1[w.1.size]?=some (Yw #[if L 6=true then Yp Yv 4 else Yp Yv 0,if L 6=true then Yq y else Yq ⟨#[]⟩,Yp Yv 0] 36 (0,0))) ([λv _=>v=.agg #[Yp Yv 4,Yq y,Yp Yv 0],λv _=>v=Yp Yv ((m:Int)+1),λv _=>v=Yp Yv ((m:Int)+1+1),λv _=>v=Yt (some ⟨w.1.size+1,1,none⟩),λv _=>v=Yq y,λv _=>v=Ys vb,λ_ _=>True,λv _=>v=Yp Yv ((m:Int)+1+1),λv _=>v=Ys vb]) (λ_=>trivial) (λ_ _ _ _ _=>trivial) (by kernel_rfl) (by rfl) (by kernel_rfl) (by kernel_rfl) ?_ ?_ ?_ ?_ ?_;rotate_left 1
  ·intro ρ;simp only[cf,Act.put,ax,aw,ay,Nat.zero_add,Nat.reduceAdd];exact rfl
  ·exact⟨uZ,bG _ _ _ (by simp),(fB _ _ _ (by simp)).trans (bG _ _ _ rfl)⟩
  ·refine aq.cons (λρ L W hR hI hL hD hO hF K hK=>?_) ?_
   ·clear hF hD hO hR;simp only[Act.put,ax,aw,ay]at hK |-;have c0:W.cell? ⟨w.1.size+1,0,none⟩=_:=aj hI.2.1 0;have c1:W.cell? ⟨w.1.size+1,1,none⟩=_:=aj hI.2.1 1;have c2:W.cell? ⟨w.1.size+1,2,none⟩=_:=aj hI.2.1 2;go_simp;refine hK _ _ trivial (by simpa[ar]using hI) (λ_ _=>rfl)
   refine aq.cons (λρ L W hR hI hL hD hO hF K hK=>?_) ?_
   ·clear hF hD hO hR;simp only[Act.put,ax,aw,ay]at hK |-;go_simp;refine hK _ _ trivial (by simpa[ar]using hI) (λ_ _=>rfl)
   refine aq.cons (λρ L W hR hI hL hD hO hF K hK=>?_) ?_
   ·have f1:=ag hF (j:=1) (by decide);clear hF hD hO hR;simp only[Act.put,ax,aw,ay]at hK |-;have e1:ρ 1=Yp Yv ((m:Int)+1):=f1;rw[e1]at hK |-;go_simp;refine hK _ _ trivial (by simpa[ar]using hI) (λ_ _=>rfl)
   refine aq.cons (λρ L W hR hI hL hD hO hF K hK=>?_) ?_
   ·clear hF hD hO hR;simp only[Act.put,ax,aw,ay]at hK |-;go_simp;refine hK _ _ trivial (by simpa[ar]using hI) (λ_ _=>rfl)
   refine aq.cons (λρ L W hR hI hL hD hO hF K hK=>?_) ?_
   ·have f3:=ag hF (j:=3) (by decide);clear hF hD hO hR;simp only[Act.put,ax,aw,ay]at hK |-;have e3:ρ 3=Yt (some ⟨w.1.size+1,1,none⟩):=f3;rw[e3]at hK |-;have c1:W.cell? ⟨w.1.size+1,1,none⟩=_:=aj hI.2.1 1;go_simp;refine hK _ _ trivial (by simpa[ar]using hI) (λ_ _=>rfl)
   refine aq.cons (λρ L W hR hI hL hD hO hF K hK=>?_) ?_
   ·have f4:=ag hF (j:=4) (by decide);clear hF hD hO hR;simp only[Act.put,ax,aw,ay]at hK |-;have e4:ρ 4=Yq y:=f4;rw[e4]at hK |-;go_simp;go_at_call 150;refine(bz.out _).mono ?_;rintro e W2 ⟨rfl,hu⟩;refine hK _ _ trivial ⟨hI.1.trans hu,(hu.below.block _ (ae hI.2.1)).trans hI.2.1,?_⟩ (λ_ _=>rfl);simp only[ar,Nat.reduceEqDiff,if_false];exact(hu.below.block _ (ae hI.2.2)).trans hI.2.2
   refine aq.cons (λρ L W hR hI hL hD hO hF K hK=>?_) ?_
   ·have f0:=ag hF (j:=0) (by decide);clear hF hD hO hR;simp only[Act.put]at hK |-;have e0:ρ 0=.agg #[Yp Yv 4,Yq y,Yp Yv 0]:=f0;rw[e0]at hK |-;have hlt:=ae hI.2.2;haveI:af w.1.size W:=af.of hlt;have hbb:W.1[w.1.size]?=some (Yw #[if L 6=true then Yp Yv 4 else Yp Yv 0,if L 6=true then Yq y else Yq ⟨#[]⟩,Yp Yv 0] 36 (0,0)):=hI.2.2;rw[hL]at hbb;have c0:W.cell? ⟨w.1.size,0,none⟩=_:=aj hbb 0;have c1:W.cell? ⟨w.1.size,1,none⟩=_:=aj hbb 1;have c2:W.cell? ⟨w.1.size,2,none⟩=_:=aj hbb 2;have p0:=bu hbb 0;have p1:=bu hbb 1;have p2:=bu hbb 2;go_simp;refine hK undef _ trivial ⟨((hI.1.setCell (p:=⟨w.1.size,0,none⟩) (Nat.le_refl _) _).setCell (p:=⟨w.1.size,1,none⟩) (Nat.le_refl _) _).setCell (p:=⟨w.1.size,2,none⟩) (Nat.le_refl _) _,?_,?_⟩ (λ_ _=>trivial)
    ·rw[heap_setCell_other _ _ _ _ (by simp),heap_setCell_other _ _ _ _ (by simp),heap_setCell_other _ _ _ _ (by simp)];exact hI.2.1
    simp only[ar,if_true];exact heap_setCell_same _ _ 2 _ _ _ (heap_setCell_same _ _ 1 _ _ _ (heap_setCell_same _ _ 0 _ _ _ hbb))
   refine aq.cons (λρ L W hR hI hL hD hO hF K hK=>?_) ?_
   ·have f2:=ag hF (j:=2) (by decide);clear hF hD hO hR;simp only[Act.put,ax,aw,ay]at hK |-;have e2:ρ 2=Yp Yv ((m:Int)+1+1):=f2;rw[e2]at hK |-;go_simp;refine hK _ _ trivial (by simpa[ar]using hI) (λ_ _=>rfl)
   refine aq.cons (λρ L W hR hI hL hD hO hF K hK=>?_) ?_
   ·have f5:=ag hF (j:=5) (by decide);clear hF hD hO hR;simp only[Act.put,ax,aw,ay]at hK |-;have e5:ρ 5=Ys vb:=f5;rw[e5]at hK |-;go_simp;refine hK _ _ trivial (by simpa[ar]using hI) (λ_ _=>rfl)
   exact aq.nil
  intro ρ L W hR hI hL hF;obtain⟨_,_,_,_,_,_,_,g7,g8,_⟩:=hF;have g7:ρ 7=Yp Yv ((m:Int)+1+1):=g7;have g8:ρ 8=Ys vb:=g8;rw[g7,g8];clear g7 g8 hR;have hbb:=hI.2.2;rw[hL 6 (by decide)]at hbb;simp only[if_true]at hbb;have c0:W.cell? ⟨w.1.size,0,none⟩=_:=aj hbb 0;have c1:W.cell? ⟨w.1.size,1,none⟩=_:=aj hbb 1;have c2:W.cell? ⟨w.1.size,2,none⟩=_:=aj hbb 2;have HU:=aa hI.1;clear hI hL hbb;go_wp2;refine bodyPost_ret (v:=Yu #[.agg #[Yp Yv 4,Yq y,Yp Yv 0],Yp Yv ((m:Int)+1+1),Ys vb]) (by simp[results,Tryz.results166,go_sem,c0,c1,c2]) rfl ?_;cases vb
  ·exact nB HT.out HU.out
  exact qR HT.out rfl (by omega) HU.out
 have hI:St.eX x.1.1=if St.aM x.1.1 then some (2,x.1.1)else none:=by
  unfold St.eX;rw[if_neg b1,if_neg b2]
 rw[hI]at hT;have bh:=λW=>pv x W (by omega)
 rw[decide_eq_false b2]at Bl;have Qz:=aa Bl;clear hp Bl hI b1 b2
 generalize St.aM x.1.1=vb at hT bh;have HT:=aa hT;have bz:=aa bh;clear hT bh;go_enter Tryz.func166,Tryz.ntmps166;go_wp2_with fail;refine(ey.out _).mono ?_;rintro e w' ⟨rfl,rfl⟩;go_wp2_with fail;refine(HP.out _).mono ?_;rintro e w' ⟨rfl,rfl⟩;go_wp2_with fail;refine(Qz.out _).mono ?_;rintro e w' ⟨rfl,rfl⟩;go_wp2_with fail;refine bZ (λ_ _=>True) (λL W=>ac w W/\W.1[w.1.size+1]?=some (Yw #[Yp Yv 2,Yq x,Yp Yv 0] 36 (0,0))/\W.1[w.1.size]?=some (Yw #[if L 6=true then Yp Yv 2 else Yp Yv 0,if L 6=true then Yq x else Yq ⟨#[]⟩,Yp Yv 0] 36 (0,0))) ([λv _=>v=.agg #[Yp Yv 2,Yq x,Yp Yv 0],λv _=>v=Yp Yv ((m:Int)+1),λv _=>v=Yp Yv ((m:Int)+1+1),λv _=>v=Yt (some ⟨w.1.size+1,1,none⟩),λv _=>v=Yq x,λv _=>v=Ys vb,λ_ _=>True,λv _=>v=Yp Yv ((m:Int)+1+1),λv _=>v=Ys vb]) (λ_=>trivial) (λ_ _ _ _ _=>trivial) (by kernel_rfl) (by rfl) (by kernel_rfl) (by kernel_rfl) ?_ ?_ ?_ ?_ ?_;rotate_left 1
 ·intro ρ;simp only[cf,Act.put,ax,aw,ay,Nat.zero_add,Nat.reduceAdd];exact rfl
 ·exact⟨uZ,bG _ _ _ (by simp),(fB _ _ _ (by simp)).trans (bG _ _ _ rfl)⟩
 ·refine aq.cons (λρ L W hR hI hL hD hO hF K hK=>?_) ?_
  ·clear hF hD hO hR;simp only[Act.put,ax,aw,ay]at hK |-;have c0:W.cell? ⟨w.1.size+1,0,none⟩=_:=aj hI.2.1 0;have c1:W.cell? ⟨w.1.size+1,1,none⟩=_:=aj hI.2.1 1;have c2:W.cell? ⟨w.1.size+1,2,none⟩=_:=aj hI.2.1 2;go_simp;refine hK _ _ trivial (by simpa[ar]using hI) (λ_ _=>rfl)
  refine aq.cons (λρ L W hR hI hL hD hO hF K hK=>?_) ?_
  ·clear hF hD hO hR;simp only[Act.put,ax,aw,ay]at hK |-;go_simp;refine hK _ _ trivial (by simpa[ar]using hI) (λ_ _=>rfl)
  refine aq.cons (λρ L W hR hI hL hD hO hF K hK=>?_) ?_
  ·have f1:=ag hF (j:=1) (by decide);clear hF hD hO hR;simp only[Act.put,ax,aw,ay]at hK |-;have e1:ρ 1=Yp Yv ((m:Int)+1):=f1;rw[e1]at hK |-;go_simp;refine hK _ _ trivial (by simpa[ar]using hI) (λ_ _=>rfl)
  refine aq.cons (λρ L W hR hI hL hD hO hF K hK=>?_) ?_
  ·clear hF hD hO hR;simp only[Act.put,ax,aw,ay]at hK |-;go_simp;refine hK _ _ trivial (by simpa[ar]using hI) (λ_ _=>rfl)
  refine aq.cons (λρ L W hR hI hL hD hO hF K hK=>?_) ?_
  ·have f3:=ag hF (j:=3) (by decide);clear hF hD hO hR;simp only[Act.put,ax,aw,ay]at hK |-;have e3:ρ 3=Yt (some ⟨w.1.size+1,1,none⟩):=f3;rw[e3]at hK |-;have c1:W.cell? ⟨w.1.size+1,1,none⟩=_:=aj hI.2.1 1;go_simp;refine hK _ _ trivial (by simpa[ar]using hI) (λ_ _=>rfl)
  refine aq.cons (λρ L W hR hI hL hD hO hF K hK=>?_) ?_
  ·have f4:=ag hF (j:=4) (by decide);clear hF hD hO hR;simp only[Act.put,ax,aw,ay]at hK |-;have e4:ρ 4=Yq x:=f4;rw[e4]at hK |-;go_simp;go_at_call 150;refine(bz.out _).mono ?_;rintro e W2 ⟨rfl,hu⟩;refine hK _ _ trivial ⟨hI.1.trans hu,(hu.below.block _ (ae hI.2.1)).trans hI.2.1,?_⟩ (λ_ _=>rfl);simp only[ar,Nat.reduceEqDiff,if_false];exact(hu.below.block _ (ae hI.2.2)).trans hI.2.2
  refine aq.cons (λρ L W hR hI hL hD hO hF K hK=>?_) ?_
  ·have f0:=ag hF (j:=0) (by decide);clear hF hD hO hR;simp only[Act.put]at hK |-;have e0:ρ 0=.agg #[Yp Yv 2,Yq x,Yp Yv 0]:=f0;rw[e0]at hK |-;have hlt:=ae hI.2.2;haveI:af w.1.size W:=af.of hlt;have hbb:W.1[w.1.size]?=some (Yw #[if L 6=true then Yp Yv 2 else Yp Yv 0,if L 6=true then Yq x else Yq ⟨#[]⟩,Yp Yv 0] 36 (0,0)):=hI.2.2;rw[hL]at hbb;have c0:W.cell? ⟨w.1.size,0,none⟩=_:=aj hbb 0;have c1:W.cell? ⟨w.1.size,1,none⟩=_:=aj hbb 1;have c2:W.cell? ⟨w.1.size,2,none⟩=_:=aj hbb 2;have p0:=bu hbb 0;have p1:=bu hbb 1;have p2:=bu hbb 2;go_simp;refine hK undef _ trivial ⟨((hI.1.setCell (p:=⟨w.1.size,0,none⟩) (Nat.le_refl _) _).setCell (p:=⟨w.1.size,1,none⟩) (Nat.le_refl _) _).setCell (p:=⟨w.1.size,2,none⟩) (Nat.le_refl _) _,?_,?_⟩ (λ_ _=>trivial)
   ·rw[heap_setCell_other _ _ _ _ (by simp),heap_setCell_other _ _ _ _ (by simp),heap_setCell_other _ _ _ _ (by simp)];exact hI.2.1
   simp only[ar,if_true];exact heap_setCell_same _ _ 2 _ _ _ (heap_setCell_same _ _ 1 _ _ _ (heap_setCell_same _ _ 0 _ _ _ hbb))
  refine aq.cons (λρ L W hR hI hL hD hO hF K hK=>?_) ?_
  ·have f2:=ag hF (j:=2) (by decide);clear hF hD hO hR;simp only[Act.put,ax,aw,ay]at hK |-;have e2:ρ 2=Yp Yv ((m:Int)+1+1):=f2;rw[e2]at hK |-;go_simp;refine hK _ _ trivial (by simpa[ar]using hI) (λ_ _=>rfl)
  refine aq.cons (λρ L W hR hI hL hD hO hF K hK=>?_) ?_
  ·have f5:=ag hF (j:=5) (by decide);clear hF hD hO hR;simp only[Act.put,ax,aw,ay]at hK |-;have e5:ρ 5=Ys vb:=f5;rw[e5]at hK |-;go_simp;refine hK _ _ trivial (by simpa[ar]using hI) (λ_ _=>rfl)
  exact aq.nil
 intro ρ L W hR hI hL hF;obtain⟨_,_,_,_,_,_,_,g7,g8,_⟩:=hF;have g7:ρ 7=Yp Yv ((m:Int)+1+1):=g7;have g8:ρ 8=Ys vb:=g8;rw[g7,g8];clear g7 g8 hR;have hbb:=hI.2.2;rw[hL 6 (by decide)]at hbb;simp only[if_true]at hbb;have c0:W.cell? ⟨w.1.size,0,none⟩=_:=aj hbb 0;have c1:W.cell? ⟨w.1.size,1,none⟩=_:=aj hbb 1;have c2:W.cell? ⟨w.1.size,2,none⟩=_:=aj hbb 2;have HU:=aa hI.1;clear hI hL hbb;go_wp2;refine bodyPost_ret (v:=Yu #[.agg #[Yp Yv 2,Yq x,Yp Yv 0],Yp Yv ((m:Int)+1+1),Ys vb]) (by simp[results,Tryz.results166,go_sem,c0,c1,c2]) rfl ?_;cases vb
 ·exact nB HT.out HU.out
 exact qR HT.out rfl (by omega) HU.out
end Go.Proofs.YthoemdibbldndaaGreatDoor
namespace Go.Proofs.YthoemdibbldndaaGreatDoor.St
theorem wm:∀ {s sub:List UInt8} {i:Nat},Lib.index s sub=(i:Int)->Lib.occAt s sub i=true/\(∀j,j<i->Lib.occAt s sub j=false)/\i<=s.length
 | [],sub,i,h=>by
  unfold Lib.index at h
  split at h
  ·rename_i h0
   obtain rfl:i=0:=by omega
   refine⟨?_,λj hj=>absurd hj (Nat.not_lt_zero _),Nat.le_refl _⟩;cases sub with
   | nil=>rfl
   | cons a t=>cases h0
  omega
 | b :: l,sub,i,h=>by
  unfold Lib.index at h
  split at h
  ·rename_i h0
   obtain rfl:i=0:=by omega
   exact⟨by simpa[Lib.occAt]using h0,λj hj=>absurd hj (Nat.not_lt_zero _),Nat.zero_le _⟩
  rename_i h0
  split at h
  ·omega
  rename_i h1
  have hge:=Lib.index_ge l sub;have hne:Lib.index l sub≠-1:=by simpa using h1
  obtain⟨k,rfl⟩:∃k,i=k+1:=⟨i-1,by omega⟩;obtain⟨g1,g2,g3⟩:=wm (s:=l) (sub:=sub) (i:=k) (by omega);refine⟨by simpa[Lib.occAt]using g1,λj hj=>?_,by simpa using g3⟩;cases j with
  | zero=>exact Bool.eq_false_iff.2 (by simpa[Lib.occAt]using h0)
  | succ j=>simpa[Lib.occAt]using g2 j (by omega)
theorem index_room{s sub:List UInt8}{i:Nat}(h:Lib.index s sub=(i:Int))(h0:sub≠[]):i+sub.length<=s.length:=by
 have h1:=(wm h).1;unfold Lib.occAt at h1;have h2:=(List.isPrefixOf_iff_prefix.1 h1).length_le;rw[List.length_drop]at h2;have h3:0<sub.length:=List.length_pos_iff.2 h0;omega
def dG(l:List UInt8):Option (Nat × List UInt8):=
 if l.head?≠some 60 then some (1,[])else
 if([60,33,45,45]:List UInt8).isPrefixOf l then(if Lib.index (l.drop 4) [45,45,62]<0 then none else some ((Lib.index (l.drop 4) [45,45,62]).toNat+7,[]))else
 match gh l with
 | none=>none
 | some (k,t,n)=>if bE (nameOf t)then(if k=2 then some (n,nameOf t)else none)else some (n,[])
def dn(b:List UInt8):List UInt8:=[60,47]++b++[62]
def eA(dE:List UInt8->Nat × Int)(dig:Nat->List UInt8)(d:List UInt8):Nat->Nat->Nat->PS->Except (Nat × Int) PS
 | 0,_,_,s=>.ok s
 | fuel+1,a,r,s=>
  if d.length<=a then .ok s else
  match dG (d.drop a)with
  | none=>.error (a,2)
  | some (n,b)=>
   if b=[]then eA dE dig d fuel (a+n) r s else
   let j:=Lib.index (d.drop (a+n)) (dn b)
   if j<0 then(if(dE (d.drop (a+n))).2≠0 then .error (a+n+(dE (d.drop (a+n))).1,(dE (d.drop (a+n))).2)else .error (d.length,2))else
   if(dE (aZ d (a+n) (a+n+j.toNat))).2≠0 then .error (a+n+(dE (aZ d (a+n) (a+n+j.toNat))).1,(dE (aZ d (a+n) (a+n+j.toNat))).2)else
   eA dE dig d fuel (a+n+j.toNat+(b.length+3)) (r+1) (bk d s (a+n) (a+n+j.toNat) (dig (r+1)))
def ix(dE:List UInt8->Nat × Int)(dig:Nat->List UInt8)(d:List UInt8):List Pt × Nat × Int:=
 if 65536<d.length then([],0,3)else
 match eA dE dig d (d.length+1) 0 0 ([],0)with
 | .error (a,e)=>([],a,e)
 | .ok s=>(cG d s,0,0)
def jX(d:List UInt8):Except (Nat × Int) PS->List Pt × Nat × Int
 | .error (a,e)=>([],a,e)
 | .ok s=>(cG d s,0,0)
theorem qw{dE:List UInt8->Nat × Int}{dig:Nat->List UInt8}{d:List UInt8}(h:¬65536<d.length):ix dE dig d=jX d (eA dE dig d (d.length+1) 0 0 ([],0)):=by
 rw[ix,if_neg h];cases eA dE dig d (d.length+1) 0 0 ([],0)<;>rfl
section
variable {dE:List UInt8->Nat × Int} {dig:Nat->List UInt8} {d:List UInt8} {fuel a r n:Nat} {b:List UInt8} {s:PS}
theorem ja(h:d.length<=a):eA dE dig d fuel a r s=.ok s:=by
 cases fuel with
 | zero=>rfl
 | succ f=>rw[eA,if_pos h]
theorem oE(h:¬d.length<=a)(h1:dG (d.drop a)=none):eA dE dig d (fuel+1) a r s=.error (a,2):=by rw[eA,if_neg h,h1]
theorem jw(h:¬d.length<=a)(h1:dG (d.drop a)=some (n,[])):eA dE dig d (fuel+1) a r s=eA dE dig d fuel (a+n) r s:=by rw[eA,if_neg h,h1];simp only[if_true]
theorem mZ(h:¬d.length<=a)(h1:dG (d.drop a)=some (n,b))(hb:b≠[])(hj:Lib.index (d.drop (a+n)) (dn b)<0)(he:(dE (d.drop (a+n))).2=0):eA dE dig d (fuel+1) a r s=.error (d.length,2):=by
 rw[eA,if_neg h,h1];simp only;rw[if_neg hb,if_pos hj,if_neg (by rw[he];decide)]
theorem lU(h:¬d.length<=a)(h1:dG (d.drop a)=some (n,b))(hb:b≠[])(hj:Lib.index (d.drop (a+n)) (dn b)<0)(he:(dE (d.drop (a+n))).2≠0):eA dE dig d (fuel+1) a r s=.error (a+n+(dE (d.drop (a+n))).1,(dE (d.drop (a+n))).2):=by
 rw[eA,if_neg h,h1];simp only;rw[if_neg hb,if_pos hj,if_pos he]
theorem oF{j:Nat}(h:¬d.length<=a)(h1:dG (d.drop a)=some (n,b))(hb:b≠[])(hj:Lib.index (d.drop (a+n)) (dn b)=(j:Int))(he:(dE (aZ d (a+n) (a+n+j))).2≠0):eA dE dig d (fuel+1) a r s=.error (a+n+(dE (aZ d (a+n) (a+n+j))).1,(dE (aZ d (a+n) (a+n+j))).2):=by
 rw[eA,if_neg h,h1];simp only;rw[if_neg hb,hj,if_neg (by omega),Int.toNat_natCast,if_pos he]
theorem lG{j:Nat}(h:¬d.length<=a)(h1:dG (d.drop a)=some (n,b))(hb:b≠[])(hj:Lib.index (d.drop (a+n)) (dn b)=(j:Int))(he:(dE (aZ d (a+n) (a+n+j))).2=0) :
  eA dE dig d (fuel+1) a r s=eA dE dig d fuel (a+n+j+(b.length+3)) (r+1) (bk d s (a+n) (a+n+j) (dig (r+1))):=by
 rw[eA,if_neg h,h1];simp only;rw[if_neg hb,hj,if_neg (by omega),Int.toNat_natCast,if_neg (by rw[he];decide)]
end
theorem xC{l:List UInt8}(h:([60,33,45,45]:List UInt8).isPrefixOf l=true):gh l=none:=by
 obtain⟨r,rfl⟩:=List.isPrefixOf_iff_prefix.1 h
 have e:df ([60,33,45,45]++r)=33 :: 45 :: 45 :: r.takeWhile (λc=>decide (c.toNat≠62)):=by
  unfold df
  show((33:UInt8) :: 45 :: 45 :: r).takeWhile _=_
  rw[List.takeWhile_cons_of_pos (by decide),List.takeWhile_cons_of_pos (by decide),List.takeWhile_cons_of_pos (by decide)]
 have hnc:∀t:List UInt8,t.head?=some 33->aM t=false:=by
  intro t ht;rw[Bool.eq_false_iff];intro hc;have hn:=(l7 hc).2.2.2;cases t with
  | nil=>cases ht
  | cons c r=>
   simp at ht;subst ht;have:nameOf (33 :: r)=33 :: nameOf r:=by unfold nameOf;rw[List.takeWhile_cons_of_pos (by decide)]
   rw[this,aF]at hn;simp[lD]at hn
 unfold gh;rw[e]
 split
 ·unfold eX;have h2:aM (List.dropLast (33 :: 45 :: 45 :: r.takeWhile (λc=>decide (c.toNat≠62))))=false:=hnc _ (by simp);have h1:aM (33 :: 45 :: 45 :: r.takeWhile (λc=>decide (c.toNat≠62)))=false:=hnc _ rfl;rw[if_neg (by simp),h2,h1]
  split<;>simp
 rfl
theorem rD{l:List UInt8}(h:l.head?≠some 60):dG l=some (1,[]):=by unfold dG;rw[if_pos h]
theorem nd{l:List UInt8}(h:l.head?=some 60)(h2:([60,33,45,45]:List UInt8).isPrefixOf l=false):dG l=match gh l with
 | none=>none
 | some (k,t,n)=>if bE (nameOf t)then(if k=2 then some (n,nameOf t)else none)else some (n,[]):=by
 unfold dG;rw[if_neg (by simp[h]),h2];rfl
theorem ss{l:List UInt8}(h2:([60,33,45,45]:List UInt8).isPrefixOf l=true):dG l=if Lib.index (l.drop 4) [45,45,62]<0 then none else some ((Lib.index (l.drop 4) [45,45,62]).toNat+7,[]):=by
 have h:l.head?=some 60:=by
  obtain⟨r,rfl⟩:=List.isPrefixOf_iff_prefix.1 h2;rfl
 unfold dG;rw[if_neg (by simp[h]),if_pos h2]
theorem tO{t:List UInt8}(h:bE t=true):t≠[]/\t.length<=5:=by
 unfold bE at h;rw[decide_eq_true_eq]at h;rcases h with rfl|rfl|rfl|rfl|rfl<;>simp
theorem su{l:List UInt8}{n:Nat}{b:List UInt8}(h:dG l=some (n,b))(h0:l≠[]):1<=n/\n<=l.length/\b.length<=5/\(b≠[]->bE b=true):=by
 by_cases lR:l.head?=some 60
 ·cases hc:([60,33,45,45]:List UInt8).isPrefixOf l
  ·rw[nd lR hc]at h;cases hq:gh l with
   | none=>rw[hq]at h;cases h
   | some x=>
    obtain⟨k,t,m⟩:=x;have hl:=kS hq;rw[hq]at h;simp only at h
    split at h
    ·rename_i hb
     split at h
     ·simp only[Option.some.injEq,Prod.mk.injEq]at h;obtain⟨rfl,rfl⟩:=h;exact⟨by omega,hl.2.2.1,(tO hb).2,λ_=>hb⟩
     cases h
    simp only[Option.some.injEq,Prod.mk.injEq]at h;obtain⟨rfl,rfl⟩:=h;exact⟨by omega,hl.2.2.1,by simp,λe=>absurd rfl e⟩
  rw[ss hc]at h
  split at h
  ·cases h
  rename_i hi
  simp only[Option.some.injEq,Prod.mk.injEq]at h;obtain⟨rfl,rfl⟩:=h;have hp:=(List.isPrefixOf_iff_prefix.1 hc).length_le
  have hb:(Lib.index (l.drop 4) [45,45,62]).toNat+3<=(l.drop 4).length:=by
   obtain⟨i,hi2⟩:∃i:Nat,Lib.index (l.drop 4) [45,45,62]=(i:Int):=⟨_,(Int.toNat_of_nonneg (by omega)).symm⟩;rw[hi2];exact index_room hi2 (by simp)
  rw[List.length_drop]at hb;simp at hp;exact⟨by omega,by omega,by simp,λe=>absurd rfl e⟩
 rw[rD lR]at h;simp only[Option.some.injEq,Prod.mk.injEq]at h;obtain⟨rfl,rfl⟩:=h;exact⟨by omega,List.length_pos_iff.2 h0,by simp,λe=>absurd rfl e⟩
end Go.Proofs.YthoemdibbldndaaGreatDoor.St
namespace Go.Proofs.YthoemdibbldndaaGreatDoor.Mk
open Go.RowKit
section
def CU(R:Option (Nat × List UInt8))(w:YA)(e:Ending)(w':YA):Prop:=ac w w'/\match R with
 | some (n,b)=>e=Yx (Yu #[Yp Yv n,Yq ⟨b.toArray⟩,Ys true])
 | none=>∃(m:Int) (x:ByteArray),e=Yx (Yu #[Yp Yv m,Yq x,Ys false])
theorem nw{R:Option (Nat × List UInt8)}{w w':YA}{n:Nat}{b:List UInt8}{x:ByteArray}{m:Int}(hR:R=some (n,b))(hx:x.1.1=b)(hm:m=n)(hu:ac w w'):CU R w (Yx (Yu #[Yp Yv m,Yq x,Ys true])) w':=by
 subst hm hx hR;exact⟨hu,by simp only[bo]⟩
theorem qO{R:Option (Nat × List UInt8)}{w w':YA}{x:ByteArray}{m:Int}(hR:R=none)(hu:ac w w'):CU R w (Yx (Yu #[Yp Yv m,Yq x,Ys false])) w':=by
 subst hR;exact⟨hu,_,_,rfl⟩
theorem Fo(s:ByteArray)(m:Int)(w:YA)(hm:w.cell? ⟨0,0,none⟩=some (Yp Yv m))(hs:s.size<=65536)(h0:0<s.size) :
  Calls Tryz.prog 122 #[Yq s] w (CU (St.dG s.1.1) w):=by
 have hcr:s.1.1=s[0] :: s.1.1.drop 1:=St.fF s h0;have hlen:=St.aB s
 by_cases im:s[0].toNat=60
 rotate_left 1
 ·have f60:((s[0].toNat:Int) != 60)=true:=by simp;omega
  have HR:=aa (St.rD (l:=s.1.1) (by rw[hcr];simp;intro e;exact im (by rw[e];rfl)));clear hcr hlen hm;go_enter Tryz.func122,Tryz.ntmps122;go_wp2;go_ret3;exact nw HR.out rfl rfl (uZ)
 have f60:((s[0].toNat:Int) != 60)=false:=by simp;omega
 have mL:s.1.1.head?=some 60:=by rw[hcr];simp;exact UInt8.toNat_inj.1 im
 have hpre:=λW=>jt s ⟨#[60,33,45,45]⟩ W (by omega) (by show 4<=_;omega)
 cases hp:preB ⟨#[60,33,45,45]⟩ s with
 | true=>
  rw[hp]at hpre;have hp':([60,33,45,45]:List UInt8).isPrefixOf s.1.1=true:=hp;have h4:4<=s.size:=by have:=(List.isPrefixOf_iff_prefix.1 hp').length_le;simpa using this
  have z4:(4:Int)<=(s.size:Int):=by omega
  obtain⟨x,hx⟩:∃x,s.extract 4 s.size=x:=⟨_,rfl⟩;have hxl:x.1.1=s.1.1.drop 4:=by rw[<-hx,Lib.extract_data,List.take_of_length_le (by simp)]
  have hxs:x.size=s.size-4:=by rw[<-hx];simp
  have hR:=St.ss hp';rw[<-hxl]at hR;have bS:=λW (hW:W.cell? ⟨0,0,none⟩=some (Yp Yv m))=>Tryz.strings_Index x ⟨#[45,45,62]⟩ m W (by omega) hW
  have hge:=Lib.index_ge x.1.1 [45,45,62]
  have hle:Lib.index x.1.1 [45,45,62]<=65536:=by
   by_cases hn:Lib.index x.1.1 [45,45,62]<0
   ·omega
   obtain⟨i,hi⟩:∃i:Nat,Lib.index x.1.1 [45,45,62]=(i:Int):=⟨_,(Int.toNat_of_nonneg (by omega)).symm⟩;have:=(St.wm hi).2.2
   rw[St.aB]at this;omega
  have hq:Lib.index x.1.1 (⟨#[45,45,62]⟩:ByteArray).1.1=Lib.index x.1.1 [45,45,62]:=rfl;simp only[hq]at bS;clear hq;generalize Lib.index x.1.1 [45,45,62]=z at hR bS hge hle;have xl:=aa hpre;have ey:=aa bS;have HM:=aa hm;clear hpre bS hm hp hp' hcr mL hxl hlen
  by_cases hz:z<0
  ·have z1:¬(0:Int)<=z:=by omega
   rw[if_pos hz]at hR;have HR:=aa hR;clear hR;go_enter Tryz.func122,Tryz.ntmps122;go_wp2_with fail;refine(xl.out _).mono ?_;rintro e w2 ⟨rfl,rfl⟩;go_wp2_with fail;refine(ey.out _ ?_).mono ?_
   ·first|exact HM.out|(simp;exact HM.out)
   rintro e w2 ⟨rfl,rfl⟩;go_wp2;go_ret3;simp only[show(decide ((0:Int)<=z))=false from decide_eq_false (by omega)];refine qO HR.out ?_;exact uZ
  have z1:(0:Int)<=z:=by omega
  rw[if_neg hz]at hR;have HR:=aa hR;clear hR;go_enter Tryz.func122,Tryz.ntmps122;go_wp2_with fail;refine(xl.out _).mono ?_;rintro e w2 ⟨rfl,rfl⟩;go_wp2_with fail;refine(ey.out _ ?_).mono ?_
  ·first|exact HM.out|(simp;exact HM.out)
  rintro e w2 ⟨rfl,rfl⟩;go_wp2;go_ret3;simp only[show(decide ((0:Int)<=z))=true from decide_eq_true z1];refine nw HR.out rfl (by omega) ?_;exact uZ
 | false=>
  rw[hp]at hpre;have hp':([60,33,45,45]:List UInt8).isPrefixOf s.1.1=false:=hp;have hR:=St.nd mL hp';have cW:=λW=>Ed s W (by omega) h0 im
  have xl:=aa hpre;cases hq:St.gh s.1.1 with
  | none=>
   rw[hq]at hR cW;have HR:=aa hR;have dT:=aa cW;clear hR cW hq hpre hp hp' hcr mL hlen hm;go_enter Tryz.func122,Tryz.ntmps122;go_wp2_with fail;refine(xl.out _).mono ?_;rintro e w2 ⟨rfl,rfl⟩;go_wp2_with fail;refine(dT.out _).mono ?_;rintro e w3 ⟨hu,k,x,q,rfl⟩;have HU:=aa hu;clear hu;go_wp2;go_ret3;exact qO HR.out (HU.out.trans (uZ))
  | some q=>
   obtain⟨k,t,n⟩:=q
   have htl:t.length<=4611686018427387904:=by
    have:=St.kS hq
    rw[St.aB]at this;omega
   rw[hq]at hR cW;simp only at hR;obtain⟨tb,fT⟩:∃tb:ByteArray,(⟨t.toArray⟩:ByteArray)=tb:=⟨_,rfl⟩;obtain⟨nb,hnb⟩:∃nb:ByteArray,(⟨(St.nameOf t).toArray⟩:ByteArray)=nb:=⟨_,rfl⟩;have bh:=λW=>qk t W htl
   have pi:nb.1.1=St.nameOf t:=by rw[<-hnb]
   have hbk:=λW=>mw nb W
   rw[pi]at hbk;have nX:∀W,Calls Tryz.prog 166 #[Yq s] W λe w'=>ac W w'/\e=Yx (Yu #[.agg #[Yp Yv k,Yq ⟨t.toArray⟩,Yp Yv 0],Yp Yv n,Ys true]):=cW
   rw[fT]at nX;rw[fT,hnb]at bh;have bz:=aa bh;have dT:=aa nX;cases hb:St.bE (St.nameOf t)with
   | false=>
    rw[hb]at hR hbk;have jO:=aa hbk;have HR:=aa (show St.dG s.1.1=some (n,[])from hR);clear hR cW nX hq hpre hp hp' hcr mL hlen hm bh hbk hb fT hnb pi;go_enter Tryz.func122,Tryz.ntmps122;go_wp2_with fail;refine(xl.out _).mono ?_;rintro e w2 ⟨rfl,rfl⟩;go_wp2_with fail;refine(dT.out _).mono ?_;rintro e w3 ⟨hu,rfl⟩;have HU:=aa hu;clear hu;go_wp2_with fail;refine(bz.out _).mono ?_;rintro e w4 ⟨rfl,hu⟩;have aX:=aa ((HU.out.alloc _).trans hu);clear hu;go_wp2_with fail;refine(jO.out _).mono ?_;rintro e w5 ⟨rfl,rfl⟩;go_wp2;go_ret3;exact nw HR.out rfl rfl (aX.out.trans (uZ))
   | true=>
    rw[hb]at hR hbk;have jO:=aa hbk;have HR:=aa (show St.dG s.1.1=if k=2 then some (n,St.nameOf t)else none from hR);have FL:=aa pi;clear hR cW nX hq hpre hp hp' hcr mL hlen hm bh hbk hb fT hnb pi;go_enter Tryz.func122,Tryz.ntmps122;go_wp2_with fail;refine(xl.out _).mono ?_;rintro e w2 ⟨rfl,rfl⟩;go_wp2_with fail;refine(dT.out _).mono ?_;rintro e w3 ⟨hu,rfl⟩;have HU:=aa hu;clear hu;go_wp2_with fail;refine(bz.out _).mono ?_;rintro e w4 ⟨rfl,hu⟩;have dj:=(hu.below.block w3.1.size (by simp)).trans (bG w3 (Yw #[Yp Yv k,Yq tb,Yp Yv 0] 36) w3.1.size rfl);have x0:w4.cell? ⟨w3.1.size,0,none⟩=some (Yp Yv k):=aj dj 0;have x1:w4.cell? ⟨w3.1.size,1,none⟩=some (Yq tb):=aj dj 1;haveI:af w3.1.size w4:=af.of (ae dj);have aX:=aa ((HU.out.alloc _).trans hu);clear hu dj;go_wp2_with fail;refine(jO.out _).mono ?_;rintro e w5 ⟨rfl,rfl⟩;go_wp2_with fail
    first|refine aP (by kernel_rfl) (by kernel_rfl) ?_|refine aU (by kernel_rfl) (by kernel_rfl) ?_
    repeat (go_big_quiet_step (first|(go_at_call 129;exact Calls.eG (bz.out _))))
    refine wpQuiet_nil ?_;rintro _ ⟨X,rfl⟩;have bm:=aa (aX.out.trans (show ac w4 _ from uZ))
    by_cases hk:k=2
    ·subst hk;have lM:=aa (HR.out.trans (if_pos rfl));clear HR;go_wp2;go_ret3;exact nw lM.out FL.out rfl (bm.out.trans (uZ))
    have hkb:(k==2)=false:=by simpa using hk
    have lM:=aa (HR.out.trans (if_neg hk));clear HR;go_wp2;go_ret3;simp only[hkb];exact qO lM.out (bm.out.trans (uZ))
end
section
section
variable {w W w4:YA} {B b:Nat} {v0 v1 v2 v v':Value} {ah op cJ:List St.It} {tx:List UInt8} {cuts:List Nat} {c c':Nat}
theorem BV.Vx(h:BV ⟨v,op,c⟩ w B b v0 v1 v2 ah tx cuts)(ho:w.ownsRow B 36 3 v' cJ.length (ak cJ))(hd:v'.ownBlock=v.ownBlock):BV ⟨v',cJ,c⟩ (w.setCell ⟨b,3,none⟩ v') B b v0 v1 v2 ah tx cuts:=by
 obtain⟨h0,h1,h2,h3,h4,h5,h6⟩:=h;exact⟨h0,heap_setCell_same w b 3 _ _ v' h1,aC h2 (aS h2 h1 (by decide)),aC h3 (aS h3 h1 (by decide)),aC h4 (aS h4 h1 (by decide)),aC ho (aS ho h1 (by decide)),by unfold Ad at h6 |-;rw[hd];exact h6⟩
theorem BV.Si(h:BV ⟨v,op,c⟩ w B b v0 v1 v2 ah tx cuts)(m:Int)(hm:m=(c':Int)):BV ⟨v,op,c'⟩ (w.setCell ⟨b,4,none⟩ (Yp Yv m)) B b v0 v1 v2 ah tx cuts:=by
 subst hm;obtain⟨h0,h1,h2,h3,h4,h5,h6⟩:=h;exact⟨h0,heap_setCell_same w b 4 _ _ _ h1,aC h2 (aS h2 h1 (by decide)),aC h3 (aS h3 h1 (by decide)),aC h4 (aS h4 h1 (by decide)),aC h5 (aS h5 h1 (by decide)),h6⟩
theorem BV.Tk(h:BV ⟨v,op,c⟩ w B b v0 v1 v2 ah tx cuts)(hg:w.grownBy w4 v.ownBlock)(hw:w.1.size<=W.1.size)(hf:pK W v v')(ho:w4.ownsRow B 36 3 v' cJ.length (ak cJ)):BV ⟨v',cJ,c⟩ (w4.setCell ⟨b,3,none⟩ v') B b v0 v1 v2 ah tx cuts:=by
 obtain⟨h0,h1,h2,h3,h4,h5,h6⟩:=h;have hb4:w4.1[b]?=some (Yw ⟨v0 :: v1 :: v2 :: Mo.l ⟨v,op,c⟩⟩ iw (0,0)):=(hg.block b (ae h1) (λe=>aS h5 h1 (by decide) e.symm)).trans h1;exact⟨h0,heap_setCell_same w4 b 3 _ _ v' hb4,aC (h2.kept hg h6) (aS h2 h1 (by decide)),aC (h3.kept hg (da h3 h5 (by decide))) (aS h3 h1 (by decide)),aC (h4.kept hg (da h4 h5 (by decide))) (aS h4 h1 (by decide)),aC ho (aS ho hb4 (by decide)),vY (AM h2 hw (vY h6) hf)⟩
theorem BV.at(h:BV ⟨v,op,c⟩ w B b v0 v1 v2 ah tx cuts):w.cell? ⟨b,3,none⟩=some v/\w.cell? ⟨b,4,none⟩=some (Yp Yv (c:Int))/\w.frozen? ⟨b,3,none⟩=false/\w.frozen? ⟨b,4,none⟩=false/\b<w.1.size/\B<=b:=by
 have hb:=h.2.1;exact⟨aj hb 3,aj hb 4,bu hb 3,bu hb 4,ae hb,h.1⟩
end
def pT(mo:Mo)(w:YA)(B b:Nat)(ah:List St.It)(tx:List UInt8)(cuts:List Nat)(k:Int)(t:List UInt8)(off:Nat)(e:Ending)(w':YA):Prop:=
 Below B w w'/\match St.stepT mo.op mo.c k t with
  | none=>e=Yx (Yp Yv 7)
  | some (i,cJ,c')=>if 512<(St.aK (ah++St.cm tx) (k,t,i)).length\/1024<=cuts.length then e=Yx (Yp Yv 3)else
    e=Yx (Yp Yv 0)/\∃v',ci ⟨v',cJ,c'⟩ w' B b (ah++St.cm tx++[(k,t,i)]) [] (cuts++[off])
section
variable {mo:Mo} {w:YA} {B b:Nat} {ah:List St.It} {tx:List UInt8} {cuts:List Nat} {k:Int} {t:List UInt8} {off:Nat} {w':YA} {i:Int} {cJ:List St.It} {c':Nat}
theorem xO{f:List St.It}{t:List UInt8}(k:Int)(s:List UInt8)(i:Int)(nc:Nat)(hk:k≠1):(512<(St.aK (f++St.cm t) (k,s,i)).length\/1024<=nc) ↔ St.aT f.length t.length nc false=true:=by
 rw[<-St.kc (f:=f) (t:=t) k s nc hk]
 have e:(St.aK (f++St.cm t) (k,s,i)).length=(St.aK (f++St.cm t) (k,s,0)).length:=by
  unfold St.aK;rw[if_neg hk,if_neg hk];simp
 rw[e]
theorem Below.ai{B:Nat}{a b c:YA}(h:Below B a b)(hB:B<=b.1.size)(u:ac b c):Below B a c:=h.trans (u.below.mono hB)
theorem GV(h:St.stepT mo.op mo.c k t=none)(hb:Below B w w'):pT mo w B b ah tx cuts k t off (Yx (Yp Yv 7)) w':=by
 refine⟨hb,?_⟩;rw[h]
theorem zZ(h:St.stepT mo.op mo.c k t=some (i,cJ,c'))(hk:k≠1)(hf:St.aT ah.length tx.length cuts.length false=true)(hb:Below B w w'):pT mo w B b ah tx cuts k t off (Yx (Yp Yv 3)) w':=by
 refine⟨hb,?_⟩;rw[h];simp only;rw[if_pos ((xO k t i cuts.length hk).2 hf)];trivial
theorem Aa(h:St.stepT mo.op mo.c k t=some (i,cJ,c'))(hk:k≠1)(hf:St.aT ah.length tx.length cuts.length false=false)(hb:Below B w w'){v':Value}(hB:ci ⟨v',cJ,c'⟩ w' B b (ah++St.cm tx++[(k,t,i)]) [] (cuts++[off])):pT mo w B b ah tx cuts k t off (Yx (Yp Yv 0)) w':=by
 refine⟨hb,?_⟩;rw[h];simp only;rw[if_neg (λh2=>by rw[(xO k t i cuts.length hk).1 h2]at hf;cases hf)];exact⟨trivial,v',hB⟩
end
theorem Jk(mo:Mo)(w:YA)(B b:Nat)(ah:List St.It)(tx:List UInt8)(cuts:List Nat)(k:Int)(x:ByteArray)(off:Nat)(h:ci mo w B b ah tx cuts)(hk:k=2\/k=3\/k=4)(h1:ah.length<=512)(h2:cuts.length<=1024)(h3:tx.length<=cuts.length)(h4:mo.op.length<=2000)(h5:mo.c<=2000)(h6:aY mo.op<=4611686018427387904)(hBw:B<=w.1.size)
  (hx:x.size<=4611686018427387904) :
  Calls Tryz.prog 198 #[Yt (some ⟨b,0,none⟩),.agg #[Yp Yv k,Yq x,Yp Yv 0],Yp Yv off] w (pT mo w B b ah tx cuts k x.1.1 off):=by
 obtain⟨v,op,c⟩:=mo;simp only at h4 h5 h6;obtain⟨v0,v1,v2,hv⟩:=h;obtain⟨A3,c3,rfl,hc31,hc32⟩:=aI (show w.ownsRow B 36 3 v op.length (ak op)from hv.2.2.2.2.2.1);obtain⟨g3,g4,f3,f4,hblt,hBb⟩:=hv.at;have g3':w.cell? ⟨b,3,none⟩=some (Yr A3 op.length c3):=g3;clear g3;haveI:af b w:=af.of hblt;have HV:=aa hv;rcases hk with rfl|rfl|rfl
 ·
  have HST:=aa (show St.stepT (⟨Yr A3 op.length c3,op,c⟩:Mo).op c 2 x.1.1=some ((c:Int)+1,op++[(2,x.1.1,(c:Int)+1)],c+1)from rfl);clear hv;obtain⟨i0,hi,hz0,hz1,hz2⟩:=info_parts dM;go_enter Tryz.func198,Tryz.ntmps198;go_wp2_with fail;have pu:ac (w.setCell ⟨b,4,none⟩ (Yp Yv ((c:Int)+1))) ((w.setCell ⟨b,4,none⟩ (Yp Yv ((c:Int)+1))).alloc (Yw #[Yp Yv 2,Yq x,Yp Yv ((c:Int)+1)] 36)):=uZ;have FR:=aa ((BV.Si (c':=c+1) HV.out ((c:Int)+1) (by omega)).ai pu);have qB:=aa (bG (w.setCell ⟨b,4,none⟩ (Yp Yv ((c:Int)+1))) (Yw #[Yp Yv 2,Yq x,Yp Yv ((c:Int)+1)] 36) w.1.size (by simp));have Wj:B<=((w.setCell ⟨b,4,none⟩ (Yp Yv ((c:Int)+1))).alloc (Yw #[Yp Yv 2,Yq x,Yp Yv ((c:Int)+1)] 36)).1.size:=by simp;omega
  have Ts:=aa ((((Below.refl B w).setCell (p:=⟨b,4,none⟩) hBb (.int .i64 ((c:Int)+1))).alloc (by simp;omega) (Obj.cells #[.int .i64 2,.string x,.int .i64 ((c:Int)+1)] 36)));clear pu;generalize(w.setCell ⟨b,4,none⟩ (.int .i64 ((c:Int)+1))).alloc (Obj.cells #[.int .i64 2,.string x,.int .i64 ((c:Int)+1)] 36)=W8 at *;obtain⟨q3,_,qf3,_,hlt8,_⟩:=FR.out.at;have q3':W8.cell? ⟨b,3,none⟩=some (.slice A3 op.length c3):=q3;have x0:W8.cell? ⟨w.1.size,0,none⟩=some (.int .i64 2):=aj qB.out 0;have x1:W8.cell? ⟨w.1.size,1,none⟩=some (.string x):=aj qB.out 1;have x2:W8.cell? ⟨w.1.size,2,none⟩=some (.int .i64 ((c:Int)+1)):=aj qB.out 2;haveI:af w.1.size W8:=af.of (ae qB.out);haveI:af b W8:=af.of hlt8;have ft:=aa (show W8.ownsRow B 36 3 (.slice A3 op.length c3) op.length (ak op)from FR.out.2.2.2.2.2.1);clear q3;generalize hno:op.length=no at *;go_region_law (refine jA rfl (.tmp 72) (.tmp 74) 37 rfl B 36 i0 (.agg #[.int .i64 0,.string ⟨#[]⟩,.int .i64 0]) 3 32 Tryz.underlying37 hi hz0 hz1 hz2 rfl (by decide) (.slice A3 no c3) no _ rfl (dN (ft.out.alloc (.cells #[.int .i64 2,.string x,.int .i64 ((c:Int)+1)] 36)) (ac.refl _).drew) ⟨W8.1.size,0,none⟩ 1 1 [.int .i64 2,.string x,.int .i64 ((c:Int)+1)] rfl rfl (eL W8 _ _ _ 36 _ rfl) (cX 2 ((c:Int)+1) _) (by unfold maxLen;omega) (by omega) (by simp;omega) ?_;intro v' w1 hown' hgrow ug;have hgr:=aN (ac.gb (uZ:ac W8 (W8.alloc (.cells #[.int .i64 2,.string x,.int .i64 ((c:Int)+1)] 36)).drew) (Value.slice A3 no c3).ownBlock) hgrow (λg e=>Or.inl e);have hb4:=(hgr.block b hlt8 (λe=>aS ft.out FR.out.2.1 (by decide) e.symm)).trans FR.out.2.1;have e3:w1.cell? ⟨b,3,none⟩=some (.slice A3 no c3):=aj hb4 3;have f3':w1.frozen? ⟨b,3,none⟩=false:=bu hb4 3;haveI:af b w1:=af.of (ae hb4);obtain⟨A',c',rfl,_⟩:=aI hown')
  all_goals
   have Dp:BV ⟨Yr A' (no+1) c',op++[(2,x.1.1,(c:Int)+1)],c+1⟩ (w1.setCell ⟨b,3,none⟩ (Yr A' (no+1) c')) B b v0 v1 v2 ah tx cuts:=by
    refine BV.Tk FR.out (by simpa using hgr) (by simp) ug ?_;rw[List.length_append,List.length_singleton,hno,bM];simp only[bo];exact hown'
   have Dw:(w1.setCell ⟨b,3,none⟩ (Yr A' (no+1) c')).1[w.1.size]?=some (Yw #[Yp Yv 2,Yq x,Yp Yv ((c:Int)+1)] 36):=by
    rw[heap_setCell_other _ _ _ _ (by show w.1.size≠b;omega)];refine(hgr.block _ (ae qB.out) (λe=>?_)).trans qB.out;have:=(HV.out.2.2.2.2.2.1.lt w.1.size (by rw[e])).2
    omega
   have we:Below B w (w1.setCell ⟨b,3,none⟩ (Yr A' (no+1) c')):=dz Ts.out Wj hgr (λg hg=>aD ft.out g hg) hBb;have Ki:B<=(w1.setCell ⟨b,3,none⟩ (Yr A' (no+1) c')).1.size:=Nat.le_trans hBw we.size;have JJ:=aa Dp;have kT:=aa Dw;have Jt:=aa we;clear Dp Dw we hgr hgrow hown' hb4 ug e3 f3' FR qB Ts ft x0 x1 x2 q3' qf3;generalize w1.setCell ⟨b,3,none⟩ (Yr A' (no+1) c')=W9 at *;go_wp2_with fail;have HIT:=aa (lA W9.drew B b ah tx cuts 2 ((c:Int)+1) x off (ci.ai ⟨_,_,_,JJ.out⟩ ((ac.refl W9).drew)) (by omega) (by omega) (by omega) Ki);have x0:W9.cell? ⟨w.1.size,0,none⟩=some (Yp Yv 2):=aj kT.out 0;have x1:W9.cell? ⟨w.1.size,1,none⟩=some (Yq x):=aj kT.out 1;have x2:W9.cell? ⟨w.1.size,2,none⟩=some (Yp Yv ((c:Int)+1)):=aj kT.out 2;haveI:af w.1.size W9:=af.of (ae kT.out);refine bZ (λ_ _=>True) (λL W=>if L 5=true then(St.aT ah.length tx.length cuts.length false=false->ci ⟨Yr A' (no+1) c',op++[(2,x.1.1,(c:Int)+1)],c+1⟩ W B b (ah++St.cm tx++[(2,x.1.1,((c:Int)+1))]) [] (cuts++[off]))/\Below B W9.drew W else W=W9.drew) ([λv _=>v=Yt (some ⟨b,0,none⟩),λv _=>v=Yt (some ⟨b,0,none⟩),λv _=>v=Yt (some ⟨b,0,none⟩),λv _=>v=.agg #[Yp Yv 2,Yq x,Yp Yv ((c:Int)+1)],λv _=>v=Yp Yv (off:Int),λv _=>v=Ys (!St.aT ah.length tx.length cuts.length false),λv _=>v=Yp Yv (iD (!St.aT ah.length tx.length cuts.length false)),λv _=>v=Yp Yv (iD (!St.aT ah.length tx.length cuts.length false))]) (λ_=>trivial) (λ_ _ _ _ _=>trivial) (by kernel_rfl) (by rfl) (by kernel_rfl) (by kernel_rfl) ?_ ?_ ?_ ?_ ?_;rotate_left 1
   ·intro ρ;simp only[cf,Act.put,ax,aw,ay,Nat.zero_add,Nat.reduceAdd];exact rfl
   ·simp
   ·refine aq.cons (λρ L W hR hI hL hD hO hF K hK=>?_) ?_
    ·clear hF hD hO hR;simp only[Act.put,ax,aw,ay]at hK |-;go_simp;refine hK _ _ trivial (by simpa[ar]using hI) (λ_ _=>rfl)
    refine aq.cons (λρ L W hR hI hL hD hO hF K hK=>?_) ?_
    ·have f0:=ag hF (j:=0) (by decide);clear hF hD hO hR;simp only[Act.put,ax,aw,ay]at hK |-;have e0:ρ 0=Yt (some ⟨b,0,none⟩):=f0;rw[e0]at hK |-;go_simp;refine hK _ _ trivial (by simpa[ar]using hI) (λ_ _=>rfl)
    refine aq.cons (λρ L W hR hI hL hD hO hF K hK=>?_) ?_
    ·have f1:=ag hF (j:=1) (by decide);clear hF hD hO hR;simp only[Act.put,ax,aw,ay]at hK |-;have e1:ρ 1=Yt (some ⟨b,0,none⟩):=f1;rw[e1]at hK |-;go_simp;refine hK _ _ trivial (by simpa[ar]using hI) (λ_ _=>rfl)
    refine aq.cons (λρ L W hR hI hL hD hO hF K hK=>?_) ?_
    ·have kf:L 5=false:=hD.not (p:=5) rfl (by decide) hL;rw[if_neg (by rw[kf];decide)]at hI;subst hI;clear hF hD hO hR;simp only[Act.put,ax,aw,ay]at hK |-;go_simp;refine hK _ _ trivial (by simp[ar,kf]) (λ_ _=>rfl)
    refine aq.cons (λρ L W hR hI hL hD hO hF K hK=>?_) ?_
    ·clear hF hD hO hR;simp only[Act.put,ax,aw,ay]at hK |-;go_simp;refine hK _ _ trivial (by simpa[ar]using hI) (λ_ _=>rfl)
    refine aq.cons (λρ L W hR hI hL hD hO hF K hK=>?_) ?_
    ·have f2:=ag hF (j:=2) (by decide);have f3:=ag hF (j:=3) (by decide);have f4:=ag hF (j:=4) (by decide);rw[if_neg (by rw[hL];decide)]at hI;subst hI;clear hF hD hO hR;simp only[Act.put,ax,aw,ay]at hK |-;have e2:ρ 2=Yt (some ⟨b,0,none⟩):=f2;have e3:ρ 3=.agg #[Yp Yv 2,Yq x,Yp Yv ((c:Int)+1)]:=f3;have e4:ρ 4=Yp Yv (off:Int):=f4;rw[e2,e3,e4]at hK |-;go_simp;go_at_call 164;refine HIT.out.mono ?_;rintro e W2 ⟨rfl,h1,h2⟩;exact hK _ _ trivial (by simp only[ar,if_true];exact⟨h1,h2⟩) (λ_ _=>rfl)
    refine aq.cons (λρ L W hR hI hL hD hO hF K hK=>?_) ?_
    ·have f5:=ag hF (j:=5) (by decide);clear hF hD hO hR;simp only[Act.put,ax,aw,ay]at hK |-;have e5:ρ 5=Ys (!St.aT ah.length tx.length cuts.length false):=f5;rw[e5]at hK |-;go_simp;go_at_call 200;refine(kK _ _).mono ?_;rintro e W2 ⟨rfl,rfl⟩;exact hK _ _ trivial (by simpa[ar]using hI) (λ_ _=>rfl)
    refine aq.cons (λρ L W hR hI hL hD hO hF K hK=>?_) ?_
    ·have f6:=ag hF (j:=6) (by decide);clear hF hD hO hR;simp only[Act.put,ax,aw,ay]at hK |-;have e6:ρ 6=Yp Yv (iD (!St.aT ah.length tx.length cuts.length false)):=f6;rw[e6]at hK |-;go_simp;refine hK _ _ trivial (by simpa[ar]using hI) (λ_ _=>rfl)
    exact aq.nil
   intro ρ L W hR hI hL hF;obtain⟨_,_,_,_,_,_,_,g7,_⟩:=hF;have g7:ρ 7=Yp Yv (iD (!St.aT ah.length tx.length cuts.length false)):=g7;rw[g7];clear g7 hR;rw[if_pos (hL 5 (by decide))]at hI;obtain⟨eT,hbl⟩:=hI;have dd:=aa (Below.trans Jt.out (Below.trans ((Below.refl B W9).drew) hbl));have iE:=aa eT;clear eT hbl hL;cases hfu:St.aT ah.length tx.length cuts.length false
   ·have cC:=aa hfu;clear hfu;go_wp2;go_ret;exact Aa HST.out (by decide) cC.out dd.out (iE.out cC.out)
   have cC:=aa hfu;clear hfu;go_wp2;go_ret;exact zZ HST.out (by decide) cC.out dd.out
 ·rcases St.cL op with rfl|⟨o1,o,rfl⟩
  ·
   have HST:=aa (show St.stepT (⟨Yr A3 ([]:List St.It).length c3,[],c⟩:Mo).op c 3 x.1.1=none from rfl);simp only[List.length_nil]at g3';have z0:((0:Int)==0)=true:=rfl;clear hv;go_enter Tryz.func198,Tryz.ntmps198;go_wp2_with fail
   first|refine aP (by kernel_rfl) (by kernel_rfl) ?_|refine aU (by kernel_rfl) (by kernel_rfl) ?_
   repeat (go_big_quiet_step (first|(fail)))
   refine wpQuiet_nil ?_;rintro _ ⟨X,rfl⟩;go_wp2;go_ret;exact GV HST.out (Below.ai (Below.refl _ _) hBw uZ)
  ·
   obtain⟨m,hm⟩:∃m,o1.length=m:=⟨_,rfl⟩;have hol:(o1++[o]).length=m+1:=by simp[hm]
   have cZ:=hv.2.2.2.2.2.1;simp only at cZ;rw[hol]at g3' cZ;obtain⟨g,rfl,kg,hgl,hgc⟩:=eE cZ (by omega);have DH:(o1++[o])[m]?=some o:=by rw[<-hm];simp
   have hcs:=kH (o1++[o]) m (by rw[hol];omega);have Bg:(o1++[o])[m]'(by rw[hol];omega)=o:=Option.some.inj ((List.getElem?_eq_getElem (by rw[hol];omega)).symm.trans DH);rw[Bg]at hcs;have i1:=hgc _ _ hcs.2.1;have i2:=hgc _ _ hcs.2.2
   have RH:o.2.1.length<=4611686018427387904:=by
    have:aY (o1++[o])=aY o1+o.2.1.length:=cA o1 o
    omega
   obtain⟨ok,ot,oi⟩:=o;simp only at i1 i2 RH;haveI:af g w:=af.of hgl;have z0:(((m+1:Nat):Int)==0)=false:=by simp;omega
   have GZ:((m:Int)+1==0)=false:=by simp;omega
   have z3:(m:Int)<((m+1:Nat):Int):=by omega
   have XU:m+1<=c3:=by omega
   have DE:m<=2000:=by omega
   have JB:=aa hol;have ft:=aa cZ;have bz:=aa (λW=>qk ot W (by omega));have HM:=aa hm;clear hv hcs hgc DH Bg hol cZ hm;obtain⟨sb,oa⟩:∃sb:ByteArray,(⟨ot.toArray⟩:ByteArray)=sb:=⟨_,rfl⟩;obtain⟨nb,hnb⟩:∃nb:ByteArray,(⟨(St.nameOf ot).toArray⟩:ByteArray)=nb:=⟨_,rfl⟩;rw[oa,hnb]at bz;rw[oa]at i1;have hnl:nb.1.1=St.nameOf ot:=by rw[<-hnb]
   clear oa hnb;obtain⟨bq,hq⟩:∃bq,(nb.toList != x.toList)=bq:=⟨_,rfl⟩
   have hst:St.stepT (⟨Yr (some ⟨g,0,none⟩) (m+1) c3,o1++[(ok,ot,oi)],c⟩:Mo).op c 3 x.1.1=if bq then none else some (oi,o1,c):=by
    show St.stepT (o1++[(ok,ot,oi)]) c 3 x.1.1=_
    unfold St.stepT;simp only[if_true,List.getLast?_append,List.getLast?_singleton,Option.some_or,List.dropLast_concat];cases bq
    ·rw[bne_eq_false_iff_eq,Lib.toList_data,Lib.toList_data,hnl]at hq;rw[if_pos hq];rfl
    rw[bne_iff_ne,Lib.toList_data,Lib.toList_data,hnl]at hq;rw[if_neg hq];rfl
   have HST:=aa hst;clear hst hnl;go_enter Tryz.func198,Tryz.ntmps198;go_wp2_with fail
   first|refine aP (by kernel_rfl) (by kernel_rfl) ?_|refine aU (by kernel_rfl) (by kernel_rfl) ?_
   repeat (go_big_quiet_step (first|(go_at_call 129;exact Calls.eG (bz.out _))))
   refine wpQuiet_nil ?_;rintro _ ⟨X,rfl⟩;have hI:ac (w.alloc (Yw #[Yp Yv 3,Yq x,Yp Yv 0] 36)) (under (w.alloc (Yw #[Yp Yv 3,Yq x,Yp Yv 0] 36)) X):=⟨X,rfl⟩;generalize under (w.alloc (Yw #[Yp Yv 3,Yq x,Yp Yv 0] 36)) X=W at *;have HU:=aa (((ac.refl w).alloc _).trans hI);cases bq;rotate_left 1
   ·have RO:(nb.toList==x.toList)=false:=by simpa using hq
    have KI:(!(nb.toList==x.toList))=true:=hq;simp only[KI];clear hI;go_wp2;go_ret;exact GV HST.out (Below.ai (Below.refl _ _) hBw HU.out)
   have RO:(nb.toList==x.toList)=true:=by simpa using hq
   have KI:(!(nb.toList==x.toList))=false:=hq;simp only[KI];obtain⟨qa,_,qf3,_,hltb,_⟩:=(HV.out.ai HU.out).at;clear qa;have q3:W.cell? ⟨b,3,none⟩=some (Yr (some ⟨g,0,none⟩) (m+1) c3):=(HU.out.cell (p:=⟨b,3,none⟩) hblt).trans g3';have q2:W.cell? ⟨g,m*3+2,none⟩=some (Yp Yv oi):=(HU.out.cell (p:=⟨g,m*3+2,none⟩) hgl).trans i2;have dj:=(hI.below.block w.1.size (by simp)).trans (bG w (Yw #[Yp Yv 3,Yq x,Yp Yv 0] 36) w.1.size rfl);have x2:W.cell? ⟨w.1.size,2,none⟩=some (Yp Yv 0):=aj dj 2;have Uz:W.frozen? ⟨w.1.size,2,none⟩=false:=bu dj 2;have W6:W.cell? ⟨w.1.size,0,none⟩=some (Yp Yv 3):=aj dj 0;have hbb:¬b=w.1.size:=by omega
   have zC:¬w.1.size=b:=by omega
   haveI:af b W:=af.of hltb;haveI:af w.1.size W:=af.of (ae dj);haveI:af g W:=af.of (Nat.lt_of_lt_of_le hgl HU.out.size);have qB:=aa dj;have aX:=aa (HU.out.setCell (p:=⟨w.1.size,2,none⟩) (Nat.le_refl _) (Yp Yv oi));clear hI dj;go_wp2_with fail;have hos:W.ownsRow B 36 3 (Yr (some ⟨g,0,none⟩) (m+1) c3) (m+1) (ak (o1++[(ok,ot,oi)])):=aH HU.out ft.out
   have Ix:(ak (o1++[(ok,ot,oi)])).take (m*3)=ak o1:=by
    rw[bM,List.take_left' (by rw[j8,HM.out])]
   have hsh:=vC hos m (by omega);rw[Ix]at hsh
   have Dp:BV ⟨Yr (some ⟨g,0,none⟩) m c3,o1,c⟩ ((W.setCell ⟨w.1.size,2,none⟩ (Yp Yv oi)).setCell ⟨b,3,none⟩ (Yr (some ⟨g,0,none⟩) m c3)) B b v0 v1 v2 ah tx cuts:=by
    refine BV.Vx (HV.out.ai aX.out) ?_ rfl;have:=aC (b:=w.1.size) (i:=2) (u:=Yp Yv oi) hsh (by simp[Value.ownBlock];omega)
    rw[HM.out];exact this
   have Dw:((W.setCell ⟨w.1.size,2,none⟩ (Yp Yv oi)).setCell ⟨b,3,none⟩ (Yr (some ⟨g,0,none⟩) m c3)).1[w.1.size]?=some (Yw #[Yp Yv 3,Yq x,Yp Yv oi] 36):=by
    rw[heap_setCell_other _ _ _ _ (by show w.1.size≠b;omega)];exact heap_setCell_same _ _ 2 _ _ _ qB.out
   have we:Below B w ((W.setCell ⟨w.1.size,2,none⟩ (Yp Yv oi)).setCell ⟨b,3,none⟩ (Yr (some ⟨g,0,none⟩) m c3)):=(Below.ai (Below.refl _ _) hBw aX.out).setCell (p:=⟨b,3,none⟩) hBb _;have Ki:B<=((W.setCell ⟨w.1.size,2,none⟩ (Yp Yv oi)).setCell ⟨b,3,none⟩ (Yr (some ⟨g,0,none⟩) m c3)).1.size:=Nat.le_trans hBw we.size;have JJ:=aa Dp;have kT:=aa Dw;have Jt:=aa we;clear Dp Dw we hsh Ix hos HU aX qB W6 x2 Uz q2 q3 qf3;generalize(W.setCell ⟨w.1.size,2,none⟩ (Yp Yv oi)).setCell ⟨b,3,none⟩ (Yr (some ⟨g,0,none⟩) m c3)=W9 at *;go_wp2_with fail;have HIT:=aa (lA W9.drew B b ah tx cuts 3 oi x off (ci.ai ⟨_,_,_,JJ.out⟩ ((ac.refl W9).drew)) (by omega) (by omega) (by omega) Ki);have x0:W9.cell? ⟨w.1.size,0,none⟩=some (Yp Yv 3):=aj kT.out 0;have x1:W9.cell? ⟨w.1.size,1,none⟩=some (Yq x):=aj kT.out 1;have x2:W9.cell? ⟨w.1.size,2,none⟩=some (Yp Yv oi):=aj kT.out 2;haveI:af w.1.size W9:=af.of (ae kT.out);refine bZ (λ_ _=>True) (λL W=>if L 5=true then(St.aT ah.length tx.length cuts.length false=false->ci ⟨Yr (some ⟨g,0,none⟩) m c3,o1,c⟩ W B b (ah++St.cm tx++[(3,x.1.1,oi)]) [] (cuts++[off]))/\Below B W9.drew W else W=W9.drew) ([λv _=>v=Yt (some ⟨b,0,none⟩),λv _=>v=Yt (some ⟨b,0,none⟩),λv _=>v=Yt (some ⟨b,0,none⟩),λv _=>v=.agg #[Yp Yv 3,Yq x,Yp Yv oi],λv _=>v=Yp Yv (off:Int),λv _=>v=Ys (!St.aT ah.length tx.length cuts.length false),λv _=>v=Yp Yv (iD (!St.aT ah.length tx.length cuts.length false)),λv _=>v=Yp Yv (iD (!St.aT ah.length tx.length cuts.length false))]) (λ_=>trivial) (λ_ _ _ _ _=>trivial) (by kernel_rfl) (by rfl) (by kernel_rfl) (by kernel_rfl) ?_ ?_ ?_ ?_ ?_;rotate_left 1
   ·intro ρ;simp only[cf,Act.put,ax,aw,ay,Nat.zero_add,Nat.reduceAdd];exact rfl
   ·simp
   ·refine aq.cons (λρ L W hR hI hL hD hO hF K hK=>?_) ?_
    ·clear hF hD hO hR;simp only[Act.put,ax,aw,ay]at hK |-;go_simp;refine hK _ _ trivial (by simpa[ar]using hI) (λ_ _=>rfl)
    refine aq.cons (λρ L W hR hI hL hD hO hF K hK=>?_) ?_
    ·have f0:=ag hF (j:=0) (by decide);clear hF hD hO hR;simp only[Act.put,ax,aw,ay]at hK |-;have e0:ρ 0=Yt (some ⟨b,0,none⟩):=f0;rw[e0]at hK |-;go_simp;refine hK _ _ trivial (by simpa[ar]using hI) (λ_ _=>rfl)
    refine aq.cons (λρ L W hR hI hL hD hO hF K hK=>?_) ?_
    ·have f1:=ag hF (j:=1) (by decide);clear hF hD hO hR;simp only[Act.put,ax,aw,ay]at hK |-;have e1:ρ 1=Yt (some ⟨b,0,none⟩):=f1;rw[e1]at hK |-;go_simp;refine hK _ _ trivial (by simpa[ar]using hI) (λ_ _=>rfl)
    refine aq.cons (λρ L W hR hI hL hD hO hF K hK=>?_) ?_
    ·have kf:L 5=false:=hD.not (p:=5) rfl (by decide) hL;rw[if_neg (by rw[kf];decide)]at hI;subst hI;clear hF hD hO hR;simp only[Act.put,ax,aw,ay]at hK |-;go_simp;refine hK _ _ trivial (by simp[ar,kf]) (λ_ _=>rfl)
    refine aq.cons (λρ L W hR hI hL hD hO hF K hK=>?_) ?_
    ·clear hF hD hO hR;simp only[Act.put,ax,aw,ay]at hK |-;go_simp;refine hK _ _ trivial (by simpa[ar]using hI) (λ_ _=>rfl)
    refine aq.cons (λρ L W hR hI hL hD hO hF K hK=>?_) ?_
    ·have f2:=ag hF (j:=2) (by decide);have f3:=ag hF (j:=3) (by decide);have f4:=ag hF (j:=4) (by decide);rw[if_neg (by rw[hL];decide)]at hI;subst hI;clear hF hD hO hR;simp only[Act.put,ax,aw,ay]at hK |-;have e2:ρ 2=Yt (some ⟨b,0,none⟩):=f2;have e3:ρ 3=.agg #[Yp Yv 3,Yq x,Yp Yv oi]:=f3;have e4:ρ 4=Yp Yv (off:Int):=f4;rw[e2,e3,e4]at hK |-;go_simp;go_at_call 164;refine HIT.out.mono ?_;rintro e W2 ⟨rfl,h1,h2⟩;exact hK _ _ trivial (by simp only[ar,if_true];exact⟨h1,h2⟩) (λ_ _=>rfl)
    refine aq.cons (λρ L W hR hI hL hD hO hF K hK=>?_) ?_
    ·have f5:=ag hF (j:=5) (by decide);clear hF hD hO hR;simp only[Act.put,ax,aw,ay]at hK |-;have e5:ρ 5=Ys (!St.aT ah.length tx.length cuts.length false):=f5;rw[e5]at hK |-;go_simp;go_at_call 200;refine(kK _ _).mono ?_;rintro e W2 ⟨rfl,rfl⟩;exact hK _ _ trivial (by simpa[ar]using hI) (λ_ _=>rfl)
    refine aq.cons (λρ L W hR hI hL hD hO hF K hK=>?_) ?_
    ·have f6:=ag hF (j:=6) (by decide);clear hF hD hO hR;simp only[Act.put,ax,aw,ay]at hK |-;have e6:ρ 6=Yp Yv (iD (!St.aT ah.length tx.length cuts.length false)):=f6;rw[e6]at hK |-;go_simp;refine hK _ _ trivial (by simpa[ar]using hI) (λ_ _=>rfl)
    exact aq.nil
   intro ρ L W hR hI hL hF;obtain⟨_,_,_,_,_,_,_,g7,_⟩:=hF;have g7:ρ 7=Yp Yv (iD (!St.aT ah.length tx.length cuts.length false)):=g7;rw[g7];clear g7 hR;rw[if_pos (hL 5 (by decide))]at hI;obtain⟨eT,hbl⟩:=hI;have dd:=aa (Below.trans Jt.out (Below.trans ((Below.refl B W9).drew) hbl));have iE:=aa eT;clear eT hbl hL;cases hfu:St.aT ah.length tx.length cuts.length false
   ·have cC:=aa hfu;clear hfu;go_wp2;go_ret;exact Aa HST.out (by decide) cC.out dd.out (iE.out cC.out)
   have cC:=aa hfu;clear hfu;go_wp2;go_ret;exact zZ HST.out (by decide) cC.out dd.out
 ·
  have HST:=aa (show St.stepT (⟨Yr A3 op.length c3,op,c⟩:Mo).op c 4 x.1.1=some ((c:Int)+1,op,c+1)from rfl);clear hv;go_enter Tryz.func198,Tryz.ntmps198;go_wp2_with fail;have tp:ac (w.setCell ⟨b,4,none⟩ (Yp Yv ((c:Int)+1))) ((w.setCell ⟨b,4,none⟩ (Yp Yv ((c:Int)+1))).alloc (Yw #[Yp Yv 4,Yq x,Yp Yv ((c:Int)+1)] 36)):=uZ;have JJ:=aa ((BV.Si (c':=c+1) HV.out ((c:Int)+1) (by omega)).ai tp);have kT:=aa (bG (w.setCell ⟨b,4,none⟩ (Yp Yv ((c:Int)+1))) (Yw #[Yp Yv 4,Yq x,Yp Yv ((c:Int)+1)] 36) w.1.size (by simp));have Ki:B<=((w.setCell ⟨b,4,none⟩ (Yp Yv ((c:Int)+1))).alloc (Yw #[Yp Yv 4,Yq x,Yp Yv ((c:Int)+1)] 36)).1.size:=by simp;omega
  have Jt:=aa ((((Below.refl B w).setCell (p:=⟨b,4,none⟩) hBb (Yp Yv ((c:Int)+1))).alloc (by simp;omega) (Yw #[Yp Yv 4,Yq x,Yp Yv ((c:Int)+1)] 36)));clear tp;generalize(w.setCell ⟨b,4,none⟩ (Yp Yv ((c:Int)+1))).alloc (Yw #[Yp Yv 4,Yq x,Yp Yv ((c:Int)+1)] 36)=W9 at *;have HIT:=aa (lA W9.drew B b ah tx cuts 4 ((c:Int)+1) x off (ci.ai ⟨_,_,_,JJ.out⟩ ((ac.refl W9).drew)) (by omega) (by omega) (by omega) Ki);have x0:W9.cell? ⟨w.1.size,0,none⟩=some (Yp Yv 4):=aj kT.out 0;have x1:W9.cell? ⟨w.1.size,1,none⟩=some (Yq x):=aj kT.out 1;have x2:W9.cell? ⟨w.1.size,2,none⟩=some (Yp Yv ((c:Int)+1)):=aj kT.out 2;haveI:af w.1.size W9:=af.of (ae kT.out);refine bZ (λ_ _=>True) (λL W=>if L 5=true then(St.aT ah.length tx.length cuts.length false=false->ci ⟨Yr A3 op.length c3,op,c+1⟩ W B b (ah++St.cm tx++[(4,x.1.1,((c:Int)+1))]) [] (cuts++[off]))/\Below B W9.drew W else W=W9.drew) ([λv _=>v=Yt (some ⟨b,0,none⟩),λv _=>v=Yt (some ⟨b,0,none⟩),λv _=>v=Yt (some ⟨b,0,none⟩),λv _=>v=.agg #[Yp Yv 4,Yq x,Yp Yv ((c:Int)+1)],λv _=>v=Yp Yv (off:Int),λv _=>v=Ys (!St.aT ah.length tx.length cuts.length false),λv _=>v=Yp Yv (iD (!St.aT ah.length tx.length cuts.length false)),λv _=>v=Yp Yv (iD (!St.aT ah.length tx.length cuts.length false))]) (λ_=>trivial) (λ_ _ _ _ _=>trivial) (by kernel_rfl) (by rfl) (by kernel_rfl) (by kernel_rfl) ?_ ?_ ?_ ?_ ?_;rotate_left 1
  ·intro ρ;simp only[cf,Act.put,ax,aw,ay,Nat.zero_add,Nat.reduceAdd];exact rfl
  ·simp
  ·refine aq.cons (λρ L W hR hI hL hD hO hF K hK=>?_) ?_
   ·clear hF hD hO hR;simp only[Act.put,ax,aw,ay]at hK |-;go_simp;refine hK _ _ trivial (by simpa[ar]using hI) (λ_ _=>rfl)
   refine aq.cons (λρ L W hR hI hL hD hO hF K hK=>?_) ?_
   ·have f0:=ag hF (j:=0) (by decide);clear hF hD hO hR;simp only[Act.put,ax,aw,ay]at hK |-;have e0:ρ 0=Yt (some ⟨b,0,none⟩):=f0;rw[e0]at hK |-;go_simp;refine hK _ _ trivial (by simpa[ar]using hI) (λ_ _=>rfl)
   refine aq.cons (λρ L W hR hI hL hD hO hF K hK=>?_) ?_
   ·have f1:=ag hF (j:=1) (by decide);clear hF hD hO hR;simp only[Act.put,ax,aw,ay]at hK |-;have e1:ρ 1=Yt (some ⟨b,0,none⟩):=f1;rw[e1]at hK |-;go_simp;refine hK _ _ trivial (by simpa[ar]using hI) (λ_ _=>rfl)
   refine aq.cons (λρ L W hR hI hL hD hO hF K hK=>?_) ?_
   ·have kf:L 5=false:=hD.not (p:=5) rfl (by decide) hL;rw[if_neg (by rw[kf];decide)]at hI;subst hI;clear hF hD hO hR;simp only[Act.put,ax,aw,ay]at hK |-;go_simp;refine hK _ _ trivial (by simp[ar,kf]) (λ_ _=>rfl)
   refine aq.cons (λρ L W hR hI hL hD hO hF K hK=>?_) ?_
   ·clear hF hD hO hR;simp only[Act.put,ax,aw,ay]at hK |-;go_simp;refine hK _ _ trivial (by simpa[ar]using hI) (λ_ _=>rfl)
   refine aq.cons (λρ L W hR hI hL hD hO hF K hK=>?_) ?_
   ·have f2:=ag hF (j:=2) (by decide);have f3:=ag hF (j:=3) (by decide);have f4:=ag hF (j:=4) (by decide);rw[if_neg (by rw[hL];decide)]at hI;subst hI;clear hF hD hO hR;simp only[Act.put,ax,aw,ay]at hK |-;have e2:ρ 2=Yt (some ⟨b,0,none⟩):=f2;have e3:ρ 3=.agg #[Yp Yv 4,Yq x,Yp Yv ((c:Int)+1)]:=f3;have e4:ρ 4=Yp Yv (off:Int):=f4;rw[e2,e3,e4]at hK |-;go_simp;go_at_call 164;refine HIT.out.mono ?_;rintro e W2 ⟨rfl,h1,h2⟩;exact hK _ _ trivial (by simp only[ar,if_true];exact⟨h1,h2⟩) (λ_ _=>rfl)
   refine aq.cons (λρ L W hR hI hL hD hO hF K hK=>?_) ?_
   ·have f5:=ag hF (j:=5) (by decide);clear hF hD hO hR;simp only[Act.put,ax,aw,ay]at hK |-;have e5:ρ 5=Ys (!St.aT ah.length tx.length cuts.length false):=f5;rw[e5]at hK |-;go_simp;go_at_call 200;refine(kK _ _).mono ?_;rintro e W2 ⟨rfl,rfl⟩;exact hK _ _ trivial (by simpa[ar]using hI) (λ_ _=>rfl)
   refine aq.cons (λρ L W hR hI hL hD hO hF K hK=>?_) ?_
   ·have f6:=ag hF (j:=6) (by decide);clear hF hD hO hR;simp only[Act.put,ax,aw,ay]at hK |-;have e6:ρ 6=Yp Yv (iD (!St.aT ah.length tx.length cuts.length false)):=f6;rw[e6]at hK |-;go_simp;refine hK _ _ trivial (by simpa[ar]using hI) (λ_ _=>rfl)
   exact aq.nil
  intro ρ L W hR hI hL hF;obtain⟨_,_,_,_,_,_,_,g7,_⟩:=hF;have g7:ρ 7=Yp Yv (iD (!St.aT ah.length tx.length cuts.length false)):=g7;rw[g7];clear g7 hR;rw[if_pos (hL 5 (by decide))]at hI;obtain⟨eT,hbl⟩:=hI;have dd:=aa (Below.trans Jt.out (Below.trans ((Below.refl B W9).drew) hbl));have iE:=aa eT;clear eT hbl hL;cases hfu:St.aT ah.length tx.length cuts.length false
  ·have cC:=aa hfu;clear hfu;go_wp2;go_ret;exact Aa HST.out (by decide) cC.out dd.out (iE.out cC.out)
  have cC:=aa hfu;clear hfu;go_wp2;go_ret;exact zZ HST.out (by decide) cC.out dd.out
end
section
def nE(mo:Mo)(w:YA)(B b:Nat)(ah:List St.It)(tx:List UInt8)(cuts:List Nat)(l:List UInt8)(off:Nat)(e:Ending)(w':YA):Prop:=
 Below B w w'/\match St.b7 l with
  | none=>∃m:Int,e=Yx (Yu #[Yp Yv m,Yp Yv 2])
  | some (k,t,n)=>match St.stepT mo.op mo.c k t with
   | none=>∃m:Int,e=Yx (Yu #[Yp Yv m,Yp Yv 7])
   | some (i,cJ,c')=>if 512<(St.aK (ah++St.cm tx) (k,t,i)).length\/1024<=cuts.length then ∃m:Int,e=Yx (Yu #[Yp Yv m,Yp Yv 3])else
    e=Yx (Yu #[Yp Yv n,Yp Yv 0])/\∃v' fI jG,ci ⟨v',cJ,c'⟩ w' B b fI jG (cuts++[off])/\St.fK fI/\fI++St.cm jG=St.aK (ah++St.cm tx) (k,t,i)/\jG.length<=cuts.length+1
section
variable {mo:Mo} {w:YA} {B b:Nat} {ah:List St.It} {tx:List UInt8} {cuts:List Nat} {l:List UInt8} {off:Nat} {w':YA} {n:Nat} {c:UInt8} {t:List UInt8} {m:Int}
theorem rA(h:St.b7 l=none)(hb:Below B w w'):nE mo w B b ah tx cuts l off (Yx (Yu #[Yp Yv m,Yp Yv 2])) w':=by
 refine⟨hb,?_⟩;rw[h];exact⟨m,rfl⟩
theorem D7(h:St.b7 l=some (1,[c],n))(hN:St.fK ah)(hf:St.aT ah.length tx.length cuts.length true=true)(hb:Below B w w'):nE mo w B b ah tx cuts l off (Yx (Yu #[Yp Yv m,Yp Yv 3])) w':=by
 refine⟨hb,?_⟩;rw[h];simp only[St.stepT];rw[if_neg (by decide),if_neg (by decide),if_neg (by decide)];simp only;rw[if_pos ((St.lQ hN c cuts.length).2 hf)];exact⟨m,rfl⟩
theorem D6(h:St.b7 l=some (1,[c],n))(hN:St.fK ah)(hf:St.aT ah.length tx.length cuts.length true=false)(hb:Below B w w')
  (hB:ci mo w' B b ah (tx++[c]) (cuts++[off])) (ht:tx.length<=cuts.length) (hm:m=(n:Int)):nE mo w B b ah tx cuts l off (Yx (Yu #[Yp Yv m,Yp Yv 0])) w':=by
 refine⟨hb,?_⟩;rw[h];simp only[St.stepT];rw[if_neg (by decide),if_neg (by decide),if_neg (by decide)];simp only;rw[if_neg (λh2=>by rw[(St.lQ hN c cuts.length).1 h2]at hf;cases hf),hm];exact⟨rfl,mo.v,ah,tx++[c],hB,hN,(St.rQ hN c).symm,by simp;omega⟩
theorem K2(h:St.b7 l=some (5,t,n))(hf:St.aT ah.length tx.length cuts.length false=true)(hb:Below B w w'):nE mo w B b ah tx cuts l off (Yx (Yu #[Yp Yv m,Yp Yv 3])) w':=by
 refine⟨hb,?_⟩;rw[h];simp only[St.stepT];rw[if_neg (by decide),if_neg (by decide),if_neg (by decide)];simp only;rw[if_pos ((St.kc 5 t cuts.length (by decide)).2 hf)];exact⟨m,rfl⟩
theorem M7(h:St.b7 l=some (5,t,n))(hf:St.aT ah.length tx.length cuts.length false=false)(hb:Below B w w')
  (hB:ci mo w' B b (ah++St.cm tx++[(5,t,0)]) [] (cuts++[off])) (hm:m=(n:Int)):nE mo w B b ah tx cuts l off (Yx (Yu #[Yp Yv m,Yp Yv 0])) w':=by
 refine⟨hb,?_⟩;rw[h];simp only[St.stepT];rw[if_neg (by decide),if_neg (by decide),if_neg (by decide)];simp only;rw[if_neg (λh2=>by rw[(St.kc 5 t cuts.length (by decide)).1 h2]at hf;cases hf),hm];exact⟨rfl,mo.v,_,[],hB,St.my _ 5 t 0 (by decide),by rw[St.rR 5 t (by decide)];simp[St.cm],by simp⟩
theorem Pv{w2:YA}{k:Int}{e:Ending}(h:St.b7 l=some (k,t,n))(hk:k=2\/k=3\/k=4)(hm:m=(n:Int))(hw:Below B w w2)(ht:pT mo w2 B b ah tx cuts k t off e w'):∃er:Int,e=Yx (Yp Yv er)/\nE mo w B b ah tx cuts l off (Yx (Yu #[Yp Yv m,Yp Yv er])) w':=by
 obtain⟨hb,hq⟩:=ht;have hk1:k≠1:=by omega
 unfold nE;rw[h];simp only;cases hs:St.stepT mo.op mo.c k t with
 | none=>rw[hs]at hq;exact⟨7,hq,hw.trans hb,m,rfl⟩
 | some y=>
  obtain⟨i,cJ,c'⟩:=y;rw[hs]at hq;simp only at hq |-
  split at hq
  ·rename_i hf
   exact⟨3,hq,hw.trans hb,by rw[if_pos hf];exact⟨m,rfl⟩⟩
  rename_i hf
  obtain⟨he,v',hB⟩:=hq;refine⟨0,he,hw.trans hb,?_⟩;rw[if_neg hf];refine⟨by rw[hm],v',_,[],hB,St.my _ k t i hk1,?_,by simp⟩;unfold St.aK;rw[if_neg hk1];simp[St.cm]
end
theorem lf(mo:Mo)(w:YA)(B b:Nat)(ah:List St.It)(tx:List UInt8)(cuts:List Nat)(raw:ByteArray)(a:Nat)(h:ci mo w B b ah tx cuts)(hN:St.fK ah)(h1:ah.length<=512)(h2:cuts.length<=1024)(h3:tx.length<=cuts.length)(h4:mo.op.length<=2000)(h5:mo.c<=2000)(h6:aY mo.op<=4611686018427387904)(hBw:B<=w.1.size)
  (ha:a<raw.size) (hr:raw.size<=4611686018427387904) :
  Calls Tryz.prog 172 #[Yt (some ⟨b,0,none⟩),Yq raw,Yp Yv a] w (nE mo w B b ah tx cuts (raw.1.1.drop a) a):=by
 obtain⟨s,hE⟩:∃s,raw.extract a raw.size=s:=⟨_,rfl⟩;have hsz:s.size=raw.size-a:=by rw[<-hE];simp
 have hs0:0<s.size:=by omega
 have hl:s.1.1=raw.1.1.drop a:=by rw[<-hE];simp;exact List.take_of_length_le (by simp)
 rw[<-hl];have hcr:s.1.1=s[0] :: s.1.1.drop 1:=St.fF s hs0;have ha1:(a:Int)<=raw.size:=by omega
 have ha2:¬raw.size<a:=by omega
 have hN':=aa hN;obtain⟨v0,v1,v2,hv⟩:=h;have hbl:=hv.2.1;have hblt:b<w.1.size:=ae hbl;have H:Hid (ci mo w B b ah tx cuts):=aa ⟨v0,v1,v2,hv⟩;have WD:s.size<=4611686018427387904:=by omega
 clear hl hv hbl hsz hN
 by_cases im:s[0].toNat=60
 ·have hsl:=St.oD (r:=s.1.1.drop 1) im;rw[<-hcr]at hsl;have QX:((s[0].toNat:Int)==60)=true:=by simp;omega
  have dT:=aa (Ed s w WD hs0 im);unfold St.uv at hsl;clear hcr im;cases hq:St.gh s.1.1 with
  | none=>
   rw[hq]at hsl dT;have bB:=aa hsl;clear hsl hq;go_enter Tryz.func172,Tryz.ntmps172;go_wp2_with fail;refine dT.out.mono ?_;rintro e w2 ⟨hu,k,x,m,rfl⟩;have HU:=aa hu;clear hu dT;go_wp2;go_ret2;exact rA bB.out (Below.ai (Below.refl _ _) hBw (HU.out.alloc _))
  | some q=>
   obtain⟨k,t,n⟩:=q;rw[hq]at hsl dT;simp only at hsl;have hkk:=(St.kS hq).1
   have htl:t.length<=4611686018427387904:=by
    have:=St.kS hq
    rw[St.aB]at this;omega
   have bz:=aa (λW=>qk t W htl);cases hb:St.bE (St.nameOf t)
   ·rw[hb]at hsl;simp only[Bool.false_eq_true,if_false]at hsl;have vp:=aa (λW=>mw ⟨(St.nameOf t).toArray⟩ W);rw[show St.bE (⟨(St.nameOf t).toArray⟩:ByteArray).1.1=false from hb]at vp;have bB:=aa hsl;obtain⟨tb,fT⟩:∃tb:ByteArray,(⟨t.toArray⟩:ByteArray)=tb:=⟨_,rfl⟩;obtain⟨nb,hnb⟩:∃nb:ByteArray,(⟨(St.nameOf t).toArray⟩:ByteArray)=nb:=⟨_,rfl⟩;have mX:tb.1.1=t:=by rw[<-fT]
    have Vo:tb.size<=4611686018427387904:=by rw[<-St.aB,mX];exact htl
    have V5:=aa (show ∀W',xq (some (k,t,n)) w (Yx (Yu #[.agg #[Yp Yv k,Yq tb,Yp Yv 0],Yp Yv n,Ys true])) W'->ac w W' from λW' h=>h.1);rw[fT,hnb]at bz;rw[hnb]at vp;clear hsl hq hb hnb;go_enter Tryz.func172,Tryz.ntmps172;go_wp2_with fail;refine dT.out.mono ?_;rintro e w2 ⟨hu,he⟩;simp only at he;rw[fT]at he;subst he;have HU:=aa hu;clear hu dT V5;go_wp2_with fail;refine(bz.out _).mono ?_;rintro e w3 ⟨rfl,hu3⟩;have bm:=aa (HU.out.trans (ac.trans (uZ) hu3));have dj:=(hu3.below.block w2.1.size (by simp)).trans (bG w2 (Yw #[Yp Yv k,Yq tb,Yp Yv 0] 36) w2.1.size rfl);have x0:w3.cell? ⟨w2.1.size,0,none⟩=some (Yp Yv k):=aj dj 0;have x1:w3.cell? ⟨w2.1.size,1,none⟩=some (Yq tb):=aj dj 1;have x2:w3.cell? ⟨w2.1.size,2,none⟩=some (Yp Yv 0):=aj dj 2;haveI:af w2.1.size w3:=af.of (ae dj);clear hu3 dj HU;go_wp2_with fail;refine(vp.out _).mono ?_;rintro e w4 ⟨rfl,rfl⟩;have cW:=Jk mo w3 B b ah tx cuts k tb a (H.out.ai bm.out) (by omega) h1 h2 h3 h4 h5 h6 (Nat.le_trans hBw bm.out.size) Vo;rw[mX]at cW;have U0:=aa cW;clear cW;go_wp2_with fail;refine U0.out.mono ?_;intro e w5 hte;obtain⟨er,rfl,hend⟩:=Pv (w:=w) (m:=(n:Int)) bB.out (by omega) rfl (Below.ai (Below.refl _ _) hBw bm.out) hte;have UG:=aa hend;clear hend hte x0 x1 x2;go_wp2;go_ret2;exact UG.out
   rw[hb]at hsl;simp only[if_true]at hsl;have vp:=aa (λW=>mw ⟨(St.nameOf t).toArray⟩ W);rw[show St.bE (⟨(St.nameOf t).toArray⟩:ByteArray).1.1=true from hb]at vp;have bB:=aa hsl;obtain⟨tb,fT⟩:∃tb:ByteArray,(⟨t.toArray⟩:ByteArray)=tb:=⟨_,rfl⟩;obtain⟨nb,hnb⟩:∃nb:ByteArray,(⟨(St.nameOf t).toArray⟩:ByteArray)=nb:=⟨_,rfl⟩;rw[fT,hnb]at bz;rw[hnb]at vp;clear hsl hq hb hnb;go_enter Tryz.func172,Tryz.ntmps172;go_wp2_with fail;refine dT.out.mono ?_;rintro e w2 ⟨hu,he⟩;simp only at he;rw[fT]at he;subst he;have HU:=aa hu;clear hu dT;go_wp2_with fail;refine(bz.out _).mono ?_;rintro e w3 ⟨rfl,hu3⟩;have bm:=aa (HU.out.trans (ac.trans (uZ) hu3));clear hu3 HU;go_wp2_with fail;refine(vp.out _).mono ?_;rintro e w4 ⟨rfl,rfl⟩;go_wp2;go_ret2;exact rA bB.out (Below.ai (Below.refl _ _) hBw bm.out)
 have QX:((s[0].toNat:Int)==60)=false:=by simp;omega
 by_cases ra:s[0].toNat=38
 ·have hsl:=St.iZ (r:=s.1.1.drop 1) ra;rw[<-hcr]at hsl;have e38:((s[0].toNat:Int)==38)=true:=by simp;omega
  have FN:=aa (λW=>M9 s W (by omega));clear hcr ra im;unfold IZ at FN;cases hq:St.sG s.1.1 with
  | none=>
   rw[hq]at hsl FN;have bB:=aa hsl;clear hsl hq;go_enter Tryz.func172,Tryz.ntmps172;go_wp2_with fail;refine(FN.out _).mono ?_;rintro e w2 ⟨rfl,rfl⟩;go_wp2;go_ret2;exact rA bB.out (Below.refl _ _)
  | some q=>
   obtain⟨k,t,n⟩:=q;obtain⟨rfl,_,_,ht1⟩:=St.zU hq
   obtain⟨c,rfl⟩:∃c,t=[c]:=by
    match t,ht1 with
    | [c],_=>exact⟨c,rfl⟩
   rw[hq]at hsl FN;have bB:=aa hsl;have UX:Hid (∀W,Calls Tryz.prog 199 #[Yq s] W λe w'=>e=Yx (Yu #[Yp .u8 (c.toNat:Int),Yp Yv n,Ys true])/\W=w'):=FN;have Cx:=aa (oR w B b ah tx cuts c a H.out (by omega) (by omega) (by omega) hBw);clear hsl hq FN;go_enter Tryz.func172,Tryz.ntmps172;go_wp2_with fail;refine(UX.out _).mono ?_;rintro e w2 ⟨rfl,rfl⟩;go_wp2_with fail;refine Cx.out.mono ?_;rintro e w2 ⟨rfl,eT,hbl⟩;have iE:=aa eT;have dd:=aa hbl;clear eT hbl;go_wp2_with fail;refine(kK _ _).mono ?_;rintro e w3 ⟨rfl,rfl⟩;cases hfu:St.aT ah.length tx.length cuts.length true
   ·have cC:=aa hfu;clear hfu;go_wp2;go_ret2;exact D6 bB.out hN'.out cC.out dd.out (iE.out cC.out) h3 rfl
   have cC:=aa hfu;clear hfu;go_wp2;go_ret2;exact D7 bB.out hN'.out cC.out dd.out
 have e38:((s[0].toNat:Int)==38)=false:=by simp;omega
 by_cases dh:s[0].toNat=123
 ·have hsl:=St.lE (r:=s.1.1.drop 1) dh;rw[<-hcr]at hsl;have tU:((s[0].toNat:Int)==123)=true:=by simp;omega
  have bS:=λW=>Tryz.strings_IndexByte s 125 W
  have me:(125:Int).toNat.toUInt8=125:=rfl;rw[me,hcr]at bS;rcases St.rK (r:=s.1.1.drop 1) dh with⟨hi,hs⟩|⟨n,hi,hn,fi,hs⟩
  ·rw[hi]at bS;rw[<-hcr]at hs;rw[hs]at hsl;have bB:=aa hsl;have ey:=aa bS;clear hsl hcr bS hi hs me im ra dh;go_enter Tryz.func172,Tryz.ntmps172;go_wp2_with fail;refine(ey.out _).mono ?_;rintro e w1 ⟨rfl,hw1⟩;obtain rfl:w=w1:=hw1.symm;clear hw1;go_wp2;go_ret2;exact rA bB.out (Below.refl _ _)
  rw[hi]at bS;have hns:n+1<s.size:=by rw[<-hcr]at hn;simpa using hn
  obtain⟨x,hX⟩:∃x,s.extract 1 (n+1)=x:=⟨_,rfl⟩;have hxl:x.1.1=(s.1.1.drop 1).take n:=by rw[<-hX];simp
  have hxs:x.size<=s.size:=by rw[<-hX];simp;omega
  have Vt:x.1.1.length=n:=by rw[hxl];simp;omega
  have bh:=λW=>kI x W (by omega)
  rw[<-hcr,<-hxl]at hs;have z1:(1:Int)<=(n:Int)+1:=by omega
  have z2:(n:Int)+1<=s.size:=by omega
  have z3:¬(n:Int)+1<0:=by omega
  rw[show(((n+1:Nat):Int))=(n:Int)+1 by omega]at bS;cases hnb:St.aF x.1.1
  ·rw[hnb]at hs bh;simp only[Bool.false_eq_true,if_false]at hs;rw[hs]at hsl;have bB:=aa hsl;have ey:=aa bS;have bz:=aa bh;clear hsl hcr bS hi hs me hn fi bh hnb hxl Vt im ra dh;go_enter Tryz.func172,Tryz.ntmps172;go_wp2_with fail;refine(ey.out _).mono ?_;rintro e w1 ⟨rfl,hw1⟩;obtain rfl:w=w1:=hw1.symm;clear hw1;go_wp2_with fail;refine(bz.out _).mono ?_;rintro e w' ⟨rfl,rfl⟩;go_wp2;go_ret2;exact rA bB.out (Below.refl _ _)
  rw[hnb]at hs bh;simp only[if_true]at hs;rw[hs]at hsl;simp only[Option.map_some]at hsl;have bB:=aa hsl;have ey:=aa bS;have bz:=aa bh;have hw2:IntKind.i64.wrap ((n:Int)+1+1)=(n:Int)+1+1:=IntWalk.i64_in _ (by omega);have HIT:=aa (lA w.drew B b ah tx cuts 5 0 x a (H.out.ai ((ac.refl w).drew)) (by omega) (by omega) (by omega) hBw);clear hsl hcr bS hi hs me hn fi bh hnb hxl im ra dh;go_enter Tryz.func172,Tryz.ntmps172;go_wp2_with fail;refine(ey.out _).mono ?_;rintro e w1 ⟨rfl,hw1⟩;obtain rfl:w=w1:=hw1.symm;clear hw1;go_wp2_with fail;refine(bz.out _).mono ?_;rintro e w' ⟨rfl,rfl⟩;go_wp2_with fail;refine bZ (λ_ _=>True) (λL W=>if L 10=true then(St.aT ah.length tx.length cuts.length false=false->ci mo W B b (ah++St.cm tx++[(5,x.1.1,0)]) [] (cuts++[a]))/\Below B w.drew W else W=w.drew) ([λv _=>v=Yp Yv ((n:Int)+1),λv _=>v=Yp Yv ((n:Int)+1+1),λv _=>v=Yt (some ⟨b,0,none⟩),λv _=>v=Yt (some ⟨b,0,none⟩),λv _=>v=Yt (some ⟨b,0,none⟩),λv _=>v=Yq s,λv _=>v=Yp Yv ((n:Int)+1),λv _=>v=Yq x,λv _=>v=.agg #[Yp Yv 5,Yq x,Yp Yv 0],λv _=>v=Yp Yv (a:Int),λv _=>v=Ys (!St.aT ah.length tx.length cuts.length false),λv _=>v=Yp Yv (iD (!St.aT ah.length tx.length cuts.length false)),λv _=>v=Yp Yv ((n:Int)+1+1),λv _=>v=Yp Yv (iD (!St.aT ah.length tx.length cuts.length false))]) (λ_=>trivial) (λ_ _ _ _ _=>trivial) (by kernel_rfl) (by rfl) (by kernel_rfl) (by kernel_rfl) ?_ ?_ ?_ ?_ ?_;rotate_left 1
  ·intro ρ;simp only[cf,Act.put,ax,aw,ay,Nat.zero_add,Nat.reduceAdd];exact rfl
  ·simp
  ·refine aq.cons (λρ L W hR hI hL hD hO hF K hK=>?_) ?_
   ·clear hF hD hO hR;simp only[Act.put,ax,aw,ay]at hK |-;go_simp;refine hK _ _ trivial (by simpa[ar]using hI) (λ_ _=>rfl)
   refine aq.cons (λρ L W hR hI hL hD hO hF K hK=>?_) ?_
   ·have f0:=ag hF (j:=0) (by decide);clear hF hD hO hR;simp only[Act.put,ax,aw,ay]at hK |-;have e0:ρ 0=Yp Yv ((n:Int)+1):=f0;rw[e0]at hK |-;go_simp;refine hK _ _ trivial (by simpa[ar]using hI) (λ_ _=>rfl)
   refine aq.cons (λρ L W hR hI hL hD hO hF K hK=>?_) ?_
   ·clear hF hD hO hR;simp only[Act.put,ax,aw,ay]at hK |-;go_simp;refine hK _ _ trivial (by simpa[ar]using hI) (λ_ _=>rfl)
   refine aq.cons (λρ L W hR hI hL hD hO hF K hK=>?_) ?_
   ·have f2:=ag hF (j:=2) (by decide);clear hF hD hO hR;simp only[Act.put,ax,aw,ay]at hK |-;have e2:ρ 2=Yt (some ⟨b,0,none⟩):=f2;rw[e2]at hK |-;go_simp;refine hK _ _ trivial (by simpa[ar]using hI) (λ_ _=>rfl)
   refine aq.cons (λρ L W hR hI hL hD hO hF K hK=>?_) ?_
   ·have f3:=ag hF (j:=3) (by decide);clear hF hD hO hR;simp only[Act.put,ax,aw,ay]at hK |-;have e3:ρ 3=Yt (some ⟨b,0,none⟩):=f3;rw[e3]at hK |-;go_simp;refine hK _ _ trivial (by simpa[ar]using hI) (λ_ _=>rfl)
   refine aq.cons (λρ L W hR hI hL hD hO hF K hK=>?_) ?_
   ·clear hF hD hO hR;simp only[Act.put,ax,aw,ay]at hK |-;go_simp;refine hK _ _ trivial (by simpa[ar]using hI) (λ_ _=>rfl)
   refine aq.cons (λρ L W hR hI hL hD hO hF K hK=>?_) ?_
   ·clear hF hD hO hR;simp only[Act.put,ax,aw,ay]at hK |-;go_simp;refine hK _ _ trivial (by simpa[ar]using hI) (λ_ _=>rfl)
   refine aq.cons (λρ L W hR hI hL hD hO hF K hK=>?_) ?_
   ·have f5:=ag hF (j:=5) (by decide);have f6:=ag hF (j:=6) (by decide);clear hF hD hO hR;simp only[Act.put,ax,aw,ay]at hK |-;have e5:ρ 5=Yq s:=f5;have e6:ρ 6=Yp Yv ((n:Int)+1):=f6;rw[e5,e6]at hK |-;go_simp;refine hK _ _ trivial (by simpa[ar]using hI) (λ_ _=>rfl)
   refine aq.cons (λρ L W hR hI hL hD hO hF K hK=>?_) ?_
   ·have f7:=ag hF (j:=7) (by decide);clear hF hD hO hR;simp only[Act.put,ax,aw,ay]at hK |-;have e7:ρ 7=Yq x:=f7;rw[e7]at hK |-;go_simp;refine hK _ _ trivial (by simpa[ar]using hI) (λ_ _=>rfl)
   refine aq.cons (λρ L W hR hI hL hD hO hF K hK=>?_) ?_
   ·clear hF hD hO hR;simp only[Act.put,ax,aw,ay]at hK |-;go_simp;refine hK _ _ trivial (by simpa[ar]using hI) (λ_ _=>rfl)
   refine aq.cons (λρ L W hR hI hL hD hO hF K hK=>?_) ?_
   ·have f4:=ag hF (j:=4) (by decide);have f8:=ag hF (j:=8) (by decide);have f9:=ag hF (j:=9) (by decide);rw[if_neg (by rw[hL];decide)]at hI;subst hI;clear hF hD hO hR;simp only[Act.put,ax,aw,ay]at hK |-;have e4:ρ 4=Yt (some ⟨b,0,none⟩):=f4;have e8:ρ 8=.agg #[Yp Yv 5,Yq x,Yp Yv 0]:=f8;have e9:ρ 9=Yp Yv (a:Int):=f9;rw[e4,e8,e9]at hK |-;go_simp;go_at_call 164;refine HIT.out.mono ?_;rintro e W2 ⟨rfl,h1,h2⟩;exact hK _ _ trivial (by simp only[ar,if_true];exact⟨h1,h2⟩) (λ_ _=>rfl)
   refine aq.cons (λρ L W hR hI hL hD hO hF K hK=>?_) ?_
   ·have f10:=ag hF (j:=10) (by decide);clear hF hD hO hR;simp only[Act.put,ax,aw,ay]at hK |-;have e10:ρ 10=Ys (!St.aT ah.length tx.length cuts.length false):=f10;rw[e10]at hK |-;go_simp;go_at_call 200;refine(kK _ _).mono ?_;rintro e W2 ⟨rfl,rfl⟩;exact hK _ _ trivial (by simpa[ar]using hI) (λ_ _=>rfl)
   refine aq.cons (λρ L W hR hI hL hD hO hF K hK=>?_) ?_
   ·have f1:=ag hF (j:=1) (by decide);clear hF hD hO hR;simp only[Act.put,ax,aw,ay]at hK |-;have e1:ρ 1=Yp Yv ((n:Int)+1+1):=f1;rw[e1]at hK |-;go_simp;refine hK _ _ trivial (by simpa[ar]using hI) (λ_ _=>rfl)
   refine aq.cons (λρ L W hR hI hL hD hO hF K hK=>?_) ?_
   ·have f11:=ag hF (j:=11) (by decide);clear hF hD hO hR;simp only[Act.put,ax,aw,ay]at hK |-;have e11:ρ 11=Yp Yv (iD (!St.aT ah.length tx.length cuts.length false)):=f11;rw[e11]at hK |-;go_simp;refine hK _ _ trivial (by simpa[ar]using hI) (λ_ _=>rfl)
   exact aq.nil
  intro ρ L W hR hI hL hF;obtain⟨_,_,_,_,_,_,_,_,_,_,_,_,g12,g13,_⟩:=hF;have g12:ρ 12=Yp Yv ((n:Int)+1+1):=g12;have g13:ρ 13=Yp Yv (iD (!St.aT ah.length tx.length cuts.length false)):=g13;rw[g12,g13];clear g12 g13 hR;rw[if_pos (hL 10 (by decide))]at hI;obtain⟨eT,hbl⟩:=hI;have dd:=aa (Below.trans ((Below.refl B w).drew) hbl);have iE:=aa eT;clear eT hbl hL;cases hfu:St.aT ah.length tx.length cuts.length false
  ·have cC:=aa hfu;clear hfu;go_wp2;go_ret2;exact M7 bB.out cC.out dd.out (iE.out cC.out) (by omega)
  have cC:=aa hfu;clear hfu;go_wp2;go_ret2;exact K2 bB.out cC.out dd.out
 have tU:((s[0].toNat:Int)==123)=false:=by simp;omega
 have hsl:=St.kl (r:=s.1.1.drop 1) im ra dh;rw[<-hcr]at hsl;have bB:=aa hsl;have Cx:=aa (oR w.drew B b ah tx cuts s[0] a (H.out.ai ((ac.refl w).drew)) (by omega) (by omega) (by omega) hBw);clear hsl hcr im ra dh;go_enter Tryz.func172,Tryz.ntmps172;go_wp2_with fail;refine bZ (λ_ _=>True) (λL W=>if L 6=true then(St.aT ah.length tx.length cuts.length true=false->ci mo W B b ah (tx++[s[0]]) (cuts++[a]))/\Below B w.drew W else W=w.drew) ([λv _=>v=Yt (some ⟨b,0,none⟩),λv _=>v=Yt (some ⟨b,0,none⟩),λv _=>v=Yt (some ⟨b,0,none⟩),λv _=>v=Yq s,λv _=>v=Yp .u8 (s[0].toNat:Int),λv _=>v=Yp Yv (a:Int),λv _=>v=Ys (!St.aT ah.length tx.length cuts.length true),λv _=>v=Yp Yv (iD (!St.aT ah.length tx.length cuts.length true)),λv _=>v=Yp Yv 1,λv _=>v=Yp Yv (iD (!St.aT ah.length tx.length cuts.length true))]) (λ_=>trivial) (λ_ _ _ _ _=>trivial) (by kernel_rfl) (by rfl) (by kernel_rfl) (by kernel_rfl) ?_ ?_ ?_ ?_ ?_;rotate_left 1
 ·intro ρ;simp only[cf,Act.put,ax,aw,ay,Nat.zero_add,Nat.reduceAdd];exact rfl
 ·simp
 ·refine aq.cons (λρ L W hR hI hL hD hO hF K hK=>?_) ?_
  ·clear hF hD hO hR;simp only[Act.put,ax,aw,ay]at hK |-;go_simp;refine hK _ _ trivial (by simpa[ar]using hI) (λ_ _=>rfl)
  refine aq.cons (λρ L W hR hI hL hD hO hF K hK=>?_) ?_
  ·have f0:=ag hF (j:=0) (by decide);clear hF hD hO hR;simp only[Act.put,ax,aw,ay]at hK |-;have e0:ρ 0=Yt (some ⟨b,0,none⟩):=f0;rw[e0]at hK |-;go_simp;refine hK _ _ trivial (by simpa[ar]using hI) (λ_ _=>rfl)
  refine aq.cons (λρ L W hR hI hL hD hO hF K hK=>?_) ?_
  ·have f1:=ag hF (j:=1) (by decide);clear hF hD hO hR;simp only[Act.put,ax,aw,ay]at hK |-;have e1:ρ 1=Yt (some ⟨b,0,none⟩):=f1;rw[e1]at hK |-;go_simp;refine hK _ _ trivial (by simpa[ar]using hI) (λ_ _=>rfl)
  refine aq.cons (λρ L W hR hI hL hD hO hF K hK=>?_) ?_
  ·clear hF hD hO hR;simp only[Act.put,ax,aw,ay]at hK |-;go_simp;refine hK _ _ trivial (by simpa[ar]using hI) (λ_ _=>rfl)
  refine aq.cons (λρ L W hR hI hL hD hO hF K hK=>?_) ?_
  ·have f3:=ag hF (j:=3) (by decide);clear hF hD hO hR;simp only[Act.put,ax,aw,ay]at hK |-;have e3:ρ 3=Yq s:=f3;rw[e3]at hK |-;go_simp;refine hK _ _ trivial (by simpa[ar]using hI) (λ_ _=>rfl)
  refine aq.cons (λρ L W hR hI hL hD hO hF K hK=>?_) ?_
  ·clear hF hD hO hR;simp only[Act.put,ax,aw,ay]at hK |-;go_simp;refine hK _ _ trivial (by simpa[ar]using hI) (λ_ _=>rfl)
  refine aq.cons (λρ L W hR hI hL hD hO hF K hK=>?_) ?_
  ·have f2:=ag hF (j:=2) (by decide);have f4:=ag hF (j:=4) (by decide);have f5:=ag hF (j:=5) (by decide);rw[if_neg (by rw[hL];decide)]at hI;subst hI;clear hF hD hO hR;simp only[Act.put,ax,aw,ay]at hK |-;have e2:ρ 2=Yt (some ⟨b,0,none⟩):=f2;have e4:ρ 4=Yp .u8 (s[0].toNat:Int):=f4;have e5:ρ 5=Yp Yv (a:Int):=f5;rw[e2,e4,e5]at hK |-;go_simp;go_at_call 162;refine Cx.out.mono ?_;rintro e W2 ⟨rfl,h1,h2⟩;exact hK _ _ trivial (by simp only[ar,if_true];exact⟨h1,h2⟩) (λ_ _=>rfl)
  refine aq.cons (λρ L W hR hI hL hD hO hF K hK=>?_) ?_
  ·have f6:=ag hF (j:=6) (by decide);clear hF hD hO hR;simp only[Act.put,ax,aw,ay]at hK |-;have e6:ρ 6=Ys (!St.aT ah.length tx.length cuts.length true):=f6;rw[e6]at hK |-;go_simp;go_at_call 200;refine(kK _ _).mono ?_;rintro e W2 ⟨rfl,rfl⟩;exact hK _ _ trivial (by simpa[ar]using hI) (λ_ _=>rfl)
  refine aq.cons (λρ L W hR hI hL hD hO hF K hK=>?_) ?_
  ·clear hF hD hO hR;simp only[Act.put,ax,aw,ay]at hK |-;go_simp;refine hK _ _ trivial (by simpa[ar]using hI) (λ_ _=>rfl)
  refine aq.cons (λρ L W hR hI hL hD hO hF K hK=>?_) ?_
  ·have f7:=ag hF (j:=7) (by decide);clear hF hD hO hR;simp only[Act.put,ax,aw,ay]at hK |-;have e7:ρ 7=Yp Yv (iD (!St.aT ah.length tx.length cuts.length true)):=f7;rw[e7]at hK |-;go_simp;refine hK _ _ trivial (by simpa[ar]using hI) (λ_ _=>rfl)
  exact aq.nil
 intro ρ L W hR hI hL hF;obtain⟨_,_,_,_,_,_,_,_,g8,g9,_⟩:=hF;have g8:ρ 8=Yp Yv 1:=g8;have g9:ρ 9=Yp Yv (iD (!St.aT ah.length tx.length cuts.length true)):=g9;rw[g8,g9];clear g8 g9 hR;rw[if_pos (hL 6 (by decide))]at hI;obtain⟨eT,hbl⟩:=hI;have dd:=aa (Below.trans ((Below.refl B w).drew) hbl);have iE:=aa eT;clear eT hbl hL;cases hfu:St.aT ah.length tx.length cuts.length true
 ·have cC:=aa hfu;clear hfu;go_wp2;go_ret2;exact D6 bB.out hN'.out cC.out dd.out (iE.out cC.out) h3 rfl
 have cC:=aa hfu;clear hfu;go_wp2;go_ret2;exact D7 bB.out hN'.out cC.out dd.out
end
section
def mx(raw:ByteArray):St.gy:=St.dv St.b7 raw.size raw.1.1 0 0 [] [] [] 0
def qZ(raw:ByteArray)(w:YA)(e:Ending)(w':YA):Prop:=
 ac w w'/\((∃mo ah tx cuts,e=Yx (Yu #[Yt (some ⟨w.1.size,0,none⟩),Yp Yv 0,Yp Yv 0])/\ci mo w' w.1.size w.1.size ah tx cuts/\ah.length<=512/\cuts.length<=1024/\tx.length<=cuts.length/\mx raw=(ah++St.cm tx,cuts++[raw.size],0,0))\/
  ∃(a:Nat) (er:Int),er≠0/\e=Yx (Yu #[Yt none,Yp Yv a,Yp Yv er])/\mx raw=([],[],a,er))
def S4(w:YA)(raw:ByteArray)(s6:Value)(wr:YA):Prop:=
 ∃(a:Nat) (mo:Mo) (ah:List St.It) (tx:List UInt8) (cuts:List Nat) (fuel:Nat),s6=Yp Yv a/\a<=raw.size/\raw.size-a<=fuel/\ci mo wr w.1.size w.1.size ah tx cuts/\St.fK ah/\ah.length<=512/\cuts.length<=1024/\tx.length<=cuts.length /\
  mo.op.length<=cuts.length/\mo.c<=cuts.length/\aY mo.op<=a/\mx raw=St.dv St.b7 fuel (raw.1.1.drop a) a a (ah++St.cm tx) cuts mo.op mo.c/\ac w wr
theorem ci.fresh(w:YA):ci ⟨Yr none 0 0,[],0⟩ (w.alloc (Yw #[Yr none 0 0,Yr none 0 0,Yr none 0 0,Yr none 0 0,Yp Yv 0] 180)) w.1.size w.1.size [] [] []:=
 ⟨_,_,_,Nat.le_refl _,heap_alloc_new w _,World.ownsRow_nil _ _ _ _,World.ownsRow_nil _ _ _ _,World.ownsRow_nil _ _ _ _,World.ownsRow_nil _ _ _ _,.inl rfl⟩
theorem P5{op cJ:List St.It}{c c':Nat}{k i:Int}{t:List UInt8}(h:St.stepT op c k t=some (i,cJ,c')):cJ.length<=op.length+1/\c'<=c+1/\aY cJ<=aY op+t.length:=by
 unfold St.stepT at h
 split at h
 ·cases hg:op.getLast? with
  | none=>rw[hg]at h;cases h
  | some o=>
   rw[hg]at h;simp only at h
   split at h
   ·simp only[Option.some.injEq,Prod.mk.injEq]at h;obtain⟨_,rfl,rfl⟩:=h;refine⟨by simp;omega,by omega,?_⟩;have:=fO op (op.length-1)
    rw[<-List.dropLast_eq_take]at this;omega
   cases h
 split at h
 ·simp only[Option.some.injEq,Prod.mk.injEq]at h;obtain⟨_,rfl,rfl⟩:=h;exact⟨by simp,by omega,by rw[cA];simp⟩
 split at h
 ·simp only[Option.some.injEq,Prod.mk.injEq]at h;obtain⟨_,rfl,rfl⟩:=h;exact⟨by omega,by omega,by omega⟩
 simp only[Option.some.injEq,Prod.mk.injEq]at h;obtain⟨_,rfl,rfl⟩:=h;exact⟨by omega,by omega,by omega⟩
theorem kt(raw:ByteArray)(w:YA)(hr:raw.size<=4611686018427387904):Calls Tryz.prog 126 #[Yq raw] w (qZ raw w):=by
 have n6:=aa (ci.fresh w);go_enter Tryz.func126,Tryz.ntmps126;go_wp2;go_loopw [6] (λs6 wr=>S4 w raw s6 wr) (λs6 _=>raw.size+1-(intOf s6).toNat)
 case atStart=>exact⟨0,_,[],[],[],raw.size,rfl,by omega,by omega,n6.out,St.qm,by simp,by simp,by simp,by simp,by simp,by simp[aY],by simp[mx,St.cm],uZ⟩
 case round=>
  obtain⟨a,mo,ah,tx,cuts,fuel,rfl,ha,hfu,hB,hN,h1,h2,h3,h4,h5,h6,hD,hu⟩:=hrel;clear n6
  by_cases hlt:a<raw.size
  ·have hel:=lf mo wr w.1.size w.1.size ah tx cuts raw a hB hN h1 h2 h3 (by omega) (by omega) (by omega) hu.size hlt hr;have jR:=aa hel;have HD:=aa hD;have HU:=aa hu
   have h0:raw.1.1.drop a≠[]:=by
    intro e;have:=congrArg List.length e
    simp at this;omega
   obtain⟨fuel,rfl⟩:∃m,fuel=m+1:=⟨fuel-1,by omega⟩;clear hel hB hN hD hu;go_wp2_with fail;refine jR.out.mono ?_;rintro e w2 ⟨hbl,hm⟩;have hu2:ac w w2:=ac.cy (Below.trans HU.out.below hbl);have aX:=aa hu2;clear hbl hu2;cases hs:St.b7 (raw.1.1.drop a)with
   | none=>
    rw[hs]at hm;obtain⟨m,rfl⟩:=hm;have du:=aa (HD.out.trans (St.ka fuel a a _ cuts h0 hs));clear hs h0;go_wp2;go_ret3;exact⟨aX.out,.inr ⟨a,2,by decide,rfl,du.out⟩⟩
   | some x=>
    obtain⟨k,t,n⟩:=x;rw[hs]at hm;simp only at hm;obtain⟨hk,jk,fD,hn4⟩:=St.px hs;have ic:k≠0:=by omega
    have ph:a+n<=raw.size:=by simp at fD;omega
    have jj:(raw.1.1.drop a).drop n=raw.1.1.drop (a+n):=by rw[List.drop_drop]
    cases hst:St.stepT mo.op mo.c k t with
    | none=>
     rw[hst]at hm;obtain⟨m,rfl⟩:=hm;have du:=aa (HD.out.trans (St.mS fuel a a _ cuts h0 hs ic hst));clear hs h0 hst jj;go_wp2;go_ret3;exact⟨aX.out,.inr ⟨a,7,by decide,rfl,du.out⟩⟩
    | some y=>
     obtain⟨i,cJ,c'⟩:=y;rw[hst]at hm;simp only at hm
     split at hm
     ·rename_i hf
      obtain⟨m,rfl⟩:=hm;have du:=aa (HD.out.trans (St.j9 fuel a a _ cuts h0 hs ic hst hf));clear hs h0 hf hst jj;go_wp2;go_ret3;exact⟨aX.out,.inr ⟨a,3,by decide,rfl,du.out⟩⟩
     rename_i hf
     obtain⟨rfl,v',fI,jG,hB',hN',hadd,ht'⟩:=hm;have hd2:=HD.out.trans (St.jh fuel a a _ cuts h0 hs ic hst hf);obtain⟨o1,o2,o3⟩:=P5 hst;rw[<-hadd]at hd2 hf;rw[jj]at hd2;have Ge:fI.length<=512:=by have:=(not_or.1 hf).1;simp at this;omega
     have Ui:cuts.length+1<=1024:=by have:=(not_or.1 hf).2;omega
     have HE:=aa (And.intro hd2 (And.intro hB' hN'));clear hd2 hB' hN' hadd hf hs h0 jj jR HD HU hst;go_wp2;exact⟨⟨a+n,_,fI,jG,cuts++[a],fuel,congrArg (Yp Yv) (by omega),ph,by omega,HE.out.2.1,HE.out.2.2,Ge,by simp;omega,by simp;omega,by simp only[List.length_append,List.length_singleton];omega,by simp only[List.length_append,List.length_singleton];omega,by simp only;omega,HE.out.1,aX.out⟩,by simp[intOf];omega⟩
  have xT:a=raw.size:=by omega
  subst xT;have hnil:raw.1.1.drop raw.size=[]:=List.drop_of_length_le (by simp);rw[hnil,St.gm]at hD;unfold St.jK at hD;obtain⟨v0,v1,v2,hv⟩:=hB;obtain⟨v,op,c⟩:=mo;simp only at h4 h5 h6 hD;obtain⟨A3,c3,rfl,_,_⟩:=aI (show wr.ownsRow w.1.size 36 3 v op.length (ak op)from hv.2.2.2.2.2.1);obtain⟨g3,_,_,_,hblt,_⟩:=hv.at;haveI:af w.1.size wr:=af.of hblt;have HB:=aa (show ci ⟨Yr A3 op.length c3,op,c⟩ wr w.1.size w.1.size ah tx cuts from⟨_,_,_,hv⟩);have HU:=aa hu
  by_cases hop:op=[]
  ·rw[if_pos hop]at hD;have HD:=aa hD;subst hop;have g3':wr.cell? ⟨w.1.size,3,none⟩=some (Yr A3 0 c3):=g3;clear hlt hv hN hD hu hnil g3;go_wp2;go_ret3;exact⟨HU.out,.inl ⟨_,ah,tx,cuts,rfl,HB.out,h1,h2,h3,HD.out⟩⟩
  rw[if_neg hop]at hD;have HD:=aa hD;have hpos:(0:Int)<(op.length:Int):=by have:=List.length_pos_iff.2 hop;omega
  have g3':wr.cell? ⟨w.1.size,3,none⟩=some (Yr A3 op.length c3):=g3;clear hlt hv hN hD hu hnil hop g3;go_wp2;go_ret3;exact⟨HU.out,.inr ⟨raw.size,7,by decide,rfl,HD.out⟩⟩
def j2(R:St.gy)(w:YA)(e:Ending)(w':YA):Prop:=
 ∃(A:Option Addr) (c:Nat),e=Yx (Yu #[Yr A R.1.length c,Yp Yv (R.2.2.1:Int),Yp Yv R.2.2.2])/\aJ w' A R.1/\R.1.length<=c/\c<=9223372036854775807/\ac w w'
def eY(R:St.gy)(w:YA)(e:Ending)(w':YA):Prop:=
 ∃(A:Option Addr) (c:Nat),e=Yx (Yu #[Yr A R.2.1.length c,Yp Yv R.2.2.2])/\iP w' A R.2.1/\R.2.1.length<=c/\c<=9223372036854775807/\ac w w'
theorem qM(raw:ByteArray)(w:YA)(hr:raw.size<=4611686018427387904):Calls Tryz.prog 91 #[Yq raw] w (j2 (mx raw) w):=by
 have HR:=aa (kt raw w hr);go_enter Tryz.func91,Tryz.ntmps91;go_wp2_with fail;refine HR.out.mono ?_;rintro e w2 ⟨hu,⟨mo,ah,tx,cuts,rfl,hB,h1,h2,h3,hD⟩|⟨a,er,her,rfl,hD⟩⟩
 ·have HI:=aa (qi w2 w.1.size w.1.size ah tx cuts hB (by omega) (by omega) hu.size);have HU:=aa hu;have HD:=aa hD;clear hu hB hD HR;go_wp2_with fail;refine HI.out.mono ?_;rintro e w3 ⟨A,c,rfl,hI,hc1,hc2,hbl⟩;have HE:=aa (And.intro hI (ac.cy (Below.trans HU.out.below hbl)));have pd:=aa hc1;clear hI hbl hc1;go_wp2;go_ret3;unfold j2;rw[HD.out];exact⟨A,c,by simp only[List.length_append];rfl,HE.out.1,pd.out,hc2,HE.out.2⟩
 have hb:(er==0)=false:=by simpa using her
 have HU:=aa hu;have HD:=aa hD;clear hu hD HR;go_wp2;go_ret3;unfold j2;rw[HD.out];exact⟨none,0,rfl,λh=>absurd h (by simp),by simp,by omega,HU.out⟩
theorem K1(raw:ByteArray)(w:YA)(hr:raw.size<=4611686018427387904):Calls Tryz.prog 87 #[Yq raw] w (eY (mx raw) w):=by
 have HR:=aa (kt raw w hr);go_enter Tryz.func87,Tryz.ntmps87;go_wp2_with fail;refine HR.out.mono ?_;rintro e w2 ⟨hu,⟨mo,ah,tx,cuts,rfl,hB,h1,h2,h3,hD⟩|⟨a,er,her,rfl,hD⟩⟩
 ·have HI:=aa (pV w2 w.1.size w.1.size ah tx cuts raw.size hB (by omega) (by simpa using hu.size));have HU:=aa hu;have HD:=aa hD;clear hu hB hD HR;go_wp2_with fail;refine HI.out.mono ?_;rintro e w3 ⟨A,c,rfl,hI,hc1,hc2,hbl⟩;have HE:=aa (And.intro hI (ac.cy (Below.trans HU.out.below hbl)));have pd:=aa hc1;clear hI hbl hc1;go_wp2;go_ret2;unfold eY;rw[HD.out];exact⟨A,c,by simp,HE.out.1,by simpa using pd.out,hc2,HE.out.2⟩
 have hb:(er==0)=false:=by simpa using her
 have HU:=aa hu;have HD:=aa hD;clear hu hD HR;go_wp2;go_ret2;unfold eY;rw[HD.out];exact⟨none,0,rfl,λh=>absurd h (by simp),by simp,by omega,HU.out⟩
def dE(l:List UInt8):Nat × Int:=((St.eP St.b7 l 0 0 [] [] [] 0).2.2.1,(St.eP St.b7 l 0 0 [] [] [] 0).2.2.2)
theorem OQ(x:ByteArray):mx x=St.eP St.b7 x.1.1 0 0 [] [] [] 0:=by unfold mx St.eP;rw[St.aB]
theorem lm(x:ByteArray):dE x.1.1=((mx x).2.2.1,(mx x).2.2.2):=by unfold dE;rw[OQ]
theorem F0:∀(fuel:Nat) (l:List UInt8) (a d:Nat) (f:List St.It) (cuts:List Nat) (op:List St.It) (c:Nat),(St.dv St.b7 fuel l a d f cuts op c).2.2.1<=a+l.length
 | 0,l,a,d,f,cuts,op,c=>by unfold St.dv St.jK;split<;>simp
 | fuel+1,l,a,d,f,cuts,op,c=>by
  by_cases h0:l=[]
  ·subst h0;rw[St.gm];unfold St.jK;split<;>simp
  cases hs:St.b7 l with
  | none=>rw[St.ka fuel a d f cuts h0 hs];simp
  | some x=>
   obtain⟨k,t,n⟩:=x;obtain⟨hk,jk,fD,_⟩:=St.px hs;cases hst:St.stepT op c k t with
   | none=>rw[St.mS fuel a d f cuts h0 hs (by omega) hst];simp
   | some y=>
    obtain⟨i,cJ,c'⟩:=y
    by_cases hf:512<(St.aK f (k,t,i)).length\/1024<=cuts.length
    ·rw[St.j9 fuel a d f cuts h0 hs (by omega) hst hf];simp
    rw[St.jh fuel a d f cuts h0 hs (by omega) hst hf];have h:=F0 fuel (l.drop n) (a+n) (a+n) (St.aK f (k,t,i)) (cuts++[d]) cJ c';rw[List.length_drop]at h;omega
theorem yl(x:ByteArray):(mx x).2.2.1<=x.size:=by
 have:=F0 x.size x.1.1 0 0 [] [] [] 0
 rw[St.aB]at this;unfold mx;omega
end
section
def rL:String:=(Rows.documentLimitsRow.named).getD 1 "x"
def nG(w:YA):Prop:=Lib.TabIs Tryz.prog w rL .u64 Lib.pow10Tab
theorem nG.ai{w w':YA}(h:ac w w')(t:nG w):nG w':=by
 unfold nG Lib.TabIs World.var? at t |-;cases hg:Program.globalNamed Tryz.prog rL with
 | none=>rw[hg]at t;simp at t
 | some g=>
  rw[hg]at t;simp only[Option.bind_some]at t |-
  have hlt:g<w.1.size:=by
   rcases Nat.lt_or_ge g w.1.size with h|h
   ·exact h
   rw[Array.getElem?_eq_none h]at t;simp at t
  rw[h.below.block g hlt];exact t
theorem NN{a b:YA}(h:ac a b)(os:Array Obj):ac a (Go.Sort.grow b os):=by
 refine ac.mk ⟨h.below.os,h.below.tape,h.below.output,?_,λk hk=>?_⟩
 ·have:=h.below.size;unfold Go.Sort.grow;simp;omega
 unfold Go.Sort.grow;have:=h.below.size
 rw[Array.getElem?_append_left (by omega)];exact h.below.block k hk
theorem ww(n:Nat)(w:YA)(h1:n<=4611686018427387904)(t:nG w) :
  Calls Tryz.prog 124 #[Yp Yv n] w λe w'=>e=Yx (Yq ⟨(Lib.decDigits n).toArray⟩)/\ac w w':=by
 refine(Any.strconv_Itoa Tryz.D0 n (by omega) (by omega) w t).mono ?_;rintro e w' ⟨rfl,k,os,rfl⟩;refine⟨?_,NN ((ac.refl w).drewN k) os⟩;unfold Lib.itoa;rw[if_neg (by omega)];simp
end
section
theorem km(d:ByteArray)(w:YA):Calls Tryz.prog 75 #[Yq d] w λe w'=>e=Yx (Yt (some ⟨w.1.size,0,none⟩))/\w'=w.alloc (Yw #[Yq d,Yp Yv 0,Yr none 0 0] 161):=by
 go_enter Tryz.func75,Tryz.ntmps75;go_wp2;go_ret;exact⟨rfl,rfl⟩
def jU(w:YA):Prop:=nG w/\∃m:Int,0<w.1.size/\w.cell? ⟨0,0,none⟩=some (Yp Yv m)
theorem jU.ai{w w':YA}(h:jU w)(u:ac w w'):jU w':=by
 obtain⟨h1,m,h2,h3⟩:=h;exact⟨h1.ai u,m,Nat.lt_of_lt_of_le h2 u.size,(u.cell (p:=⟨0,0,none⟩) h2).trans h3⟩
def iJ(d:ByteArray):List St.Pt × Nat × Int:=St.ix dE Lib.decDigits d.1.1
def aG(R:List St.Pt × Nat × Int)(w:YA)(e:Ending)(w':YA):Prop:=
 ∃(A:Option Addr) (c:Nat),e=Yx (Yu #[Yr A R.1.length c,Yp Yv (R.2.1:Int),Yp Yv R.2.2])/\a8 w' A R.1/\R.1.length<=c/\c<=9223372036854775807/\ac w w'
theorem aG.err{R:List St.Pt × Nat × Int}{w w':YA}{a:Nat}{er:Int}(h:R=([],a,er))(u:ac w w')(m:Int)(hm:m=a):aG R w (Yx (Yu #[Yr none 0 0,Yp Yv m,Yp Yv er])) w':=by
 subst h hm;exact⟨none,0,rfl,λh=>absurd h (by simp),by simp,by omega,u⟩
def S5(w:YA)(d:ByteArray)(s3 s6:Value)(wr:YA):Prop:=
 ∃(a r fuel:Nat) (s:St.PS),s3=Yp Yv a/\s6=Yp Yv r/\a<=d.size/\r<=a/\d.size-a<fuel/\s.2<=a/\s.1.length<=2*a/\PV wr w.1.size w.1.size d s/\iJ d=St.jX d.1.1 (St.eA dE Lib.decDigits d.1.1 fuel a r s)/\ac w wr
theorem eh(b:List UInt8):((⟨#[60,47]⟩:ByteArray)++⟨b.toArray⟩++⟨#[62]⟩).1.1=St.dn b:=by
 simp[St.dn]
theorem IM(d:ByteArray)(w:YA)(hL:jU w)(fq:d.size<=4611686018427387904):Calls Tryz.prog 84 #[Yq d] w (aG (iJ d) w):=by
 have hlen:=St.aB d
 by_cases hbig:65536<d.size
 ·have hR:iJ d=([],0,3):=by unfold iJ St.ix;rw[if_pos (by omega)]
  have HR:=aa hR;have hb:(65536:Int)<d.size:=by omega
  clear hR hlen hL;go_enter Tryz.func84,Tryz.ntmps84;go_wp2;go_ret3;exact aG.err HR.out (ac.refl _) _ rfl
 have hb:¬(65536:Int)<d.size:=by omega
 have hd:d.size<=65536:=by omega
 have lS:PV (w.alloc (Yw #[Yq d,Yp Yv 0,Yr none 0 0] 161)) w.1.size w.1.size d ([],0):=⟨Nat.le_refl _,Yr none 0 0,heap_alloc_new w _,World.ownsRow_nil _ _ _ _⟩
 have ub:iJ d=St.jX d.1.1 (St.eA dE Lib.decDigits d.1.1 (d.size+1) 0 0 ([],0)):=by
  unfold iJ;rw[St.qw (by omega),hlen]
 have jQ:=aa (And.intro lS (And.intro ub ((ac.refl w).alloc (Yw #[Yq d,Yp Yv 0,Yr none 0 0] 161))));have HLEN:=aa hlen;obtain⟨fT,m,hm0,DE⟩:=hL;have CO:=aa fT;have TE:=aa (show ∀W,ac w W->W.cell? ⟨0,0,none⟩=some (Yp Yv m)from λW hW=>(hW.cell (p:=⟨0,0,none⟩) hm0).trans DE);clear lS ub hlen fT hm0 DE;go_enter Tryz.func84,Tryz.ntmps84;go_wp2_with (go_at_call 75;refine(km d _).mono ?_;rintro e w' ⟨rfl,rfl⟩);go_loopw [3,6] (λs3 s6 wr=>S5 w d s3 s6 wr) (λs3 _ _=>d.size+1-(intOf s3).toNat)
 case atStart=>exact⟨0,0,d.size+1,([],0),rfl,rfl,by omega,by omega,by omega,by simp,by simp,jQ.out.1,jQ.out.2.1,jQ.out.2.2⟩
 case round=>
  obtain⟨a,r,fuel,s,rfl,rfl,ha,RP,hfu,hs2,hs1,hP,hS,hu⟩:=hrel;have HP:=aa hP;have HS:=aa hS;have HU:=aa hu;have hsz:=hu.size;clear hP hS hu jQ
  by_cases hlt:a<d.size
  ·obtain⟨fuel,rfl⟩:∃m,fuel=m+1:=⟨fuel-1,by omega⟩;have eu:=aa (show ¬d.1.1.length<=a by rw[HLEN.out];omega);have z:(a:Int)<d.size:=by omega
   have z2:(a:Int)<=d.size:=by omega
   obtain⟨x,hx⟩:∃x,d.extract a d.size=x:=⟨_,rfl⟩;have hxl:x.1.1=d.1.1.drop a:=by rw[<-hx,Lib.extract_data,List.take_of_length_le (by simp)]
   have hxs:x.size=d.size-a:=by rw[<-hx];simp
   have hout:=λW (hW:ac wr W)=>Fo x m W (TE.out _ (HU.out.trans hW)) (by omega) (by omega)
   rw[hxl]at hout;cases ho:St.dG (d.1.1.drop a)with
   | none=>
    rw[ho]at hout;have HO:=aa hout;have HR:=aa (HS.out.trans (by rw[St.oE eu.out ho];rfl):iJ d=([],a,2));clear hout ho hxl;go_wp2_with fail;refine(HO.out _ (ac.refl _)).mono ?_;rintro e w2 ⟨hu2,q,y,rfl⟩;have aX:=aa (HU.out.trans hu2);clear hu2 HO;go_wp2;go_ret3;exact aG.err HR.out aX.out _ rfl
   | some q=>
    obtain⟨n,b⟩:=q;rw[ho]at hout;obtain⟨jk,fD,cD,hbb⟩:=St.su ho (by intro h0;have:=congrArg List.length h0;simp at this;omega);simp at fD;have x8:∀W,ac wr W->Calls Tryz.prog 122 #[Yq x] W λe w'=>ac W w'/\e=Yx (Yu #[Yp Yv n,Yq ⟨b.toArray⟩,Ys true]):=hout
    by_cases hb0:b=[]
    ·subst hb0;have HST:=aa (HS.out.trans (by rw[St.jw eu.out ho]):iJ d=St.jX d.1.1 (St.eA dE Lib.decDigits d.1.1 fuel (a+n) r s));have HO:=aa x8;clear hout x8 ho hxl;go_wp2_with fail;refine(HO.out _ (ac.refl _)).mono ?_;rintro e w2 ⟨hu2,rfl⟩;have aX:=aa (HU.out.trans hu2);have fS:=aa (HP.out.ai hu2);clear hu2 HO;go_wp2;exact⟨⟨a+n,r,fuel,s,congrArg (Yp Yv) (by omega),rfl,by omega,by omega,by omega,by omega,by omega,fS.out,HST.out,aX.out⟩,by simp[intOf];omega⟩
    have hbk:=hbb hb0;obtain⟨bb,zC⟩:∃bb:ByteArray,(⟨b.toArray⟩:ByteArray)=bb:=⟨_,rfl⟩;have hbl:bb.1.1=b:=by rw[<-zC]
    have hbs:bb.size=b.length:=by rw[<-zC];show b.toArray.size=_;simp
    have Xi:(bb.toList==([]:List UInt8))=false:=by rw[jV,hbl];exact decide_eq_false hb0
    rw[zC]at x8;have HO:=aa x8;obtain⟨x2,hx2⟩:∃x2,d.extract (a+n) d.size=x2:=⟨_,rfl⟩;have ur:x2.1.1=d.1.1.drop (a+n):=by rw[<-hx2,Lib.extract_data,List.take_of_length_le (by simp)]
    have Iz:x2.size=d.size-(a+n):=by rw[<-hx2];simp
    obtain⟨eb,ff⟩:∃eb:ByteArray,(⟨#[60,47]⟩:ByteArray)++bb++⟨#[62]⟩=eb:=⟨_,rfl⟩;have uf:eb.1.1=St.dn b:=by rw[<-ff,<-zC];exact eh b
    have U9:eb.size=b.length+3:=by have:=congrArg List.length uf;rw[St.aB]at this;rw[this];simp[St.dn]
    have bS:=λW (hW:ac wr W)=>Tryz.strings_Index x2 eb m W (by omega) (TE.out _ (HU.out.trans hW))
    rw[uf,ur]at bS;have y1:((a:Int)+n)<=d.size:=by omega
    have y2:(0:Int)<=(a:Int)+n:=by omega
    have hge:=Lib.index_ge (d.1.1.drop (a+n)) (St.dn b);have hno:=λhj he=>St.mZ (dE:=dE) (dig:=Lib.decDigits) (fuel:=fuel) (r:=r) (s:=s) eu.out ho hb0 hj he
    have Iu:=λhj he=>St.lU (dE:=dE) (dig:=Lib.decDigits) (fuel:=fuel) (r:=r) (s:=s) eu.out ho hb0 hj he
    have Ic:=λj hj he=>St.oF (dE:=dE) (dig:=Lib.decDigits) (fuel:=fuel) (r:=r) (s:=s) (j:=j) eu.out ho hb0 hj he
    have Cn:=λj hj he=>St.lG (dE:=dE) (dig:=Lib.decDigits) (fuel:=fuel) (r:=r) (s:=s) (j:=j) eu.out ho hb0 hj he
    have hroom:=λj (hj:Lib.index (d.1.1.drop (a+n)) (St.dn b)=(j:Nat))=>St.index_room hj (by simp[St.dn])
    have y3:¬9223372036854775807<2+bb.size:=by omega
    have y4:¬9223372036854775807<2+bb.size+1:=by omega
    have y5:((a:Int)+n).toNat=a+n:=by omega
    generalize WJ:Lib.index (d.1.1.drop (a+n)) (St.dn b)=zi at bS hge hno Iu Ic Cn hroom;have ey:=aa bS;clear bS hout x8 ho hxl hbk hbb zC hbl uf hb0 WJ
    by_cases hz:zi<0
    ·have hN:=hno hz;have ua:=Iu hz;rw[<-ur,lm]at hN ua;have eI:=λW=>qM x2 W (by omega)
     have hat:=yl x2;generalize mx x2=R at eI hat hN ua;obtain⟨rf,rc,iK,re⟩:=R;simp only at hN ua hat;have jg:=aa eI;have HN:=aa hN;have gK:=aa ua;clear eI hN ua hno Iu Ic Cn hroom ur;go_wp2_with fail;refine(HO.out _ (ac.refl _)).mono ?_;rintro e w2 ⟨hu2,rfl⟩;have aX:=aa hu2;clear hu2;go_wp2_with fail;refine(ey.out _ aX.out).mono ?_;rintro e w3 ⟨rfl,rfl⟩;go_wp2_with fail;refine(jg.out _).mono ?_;rintro e w6 ⟨A6,c6,rfl,_,_,_,dQ⟩;have dS:=aa ((HU.out.trans aX.out).trans dQ);clear dQ jg ey HO aX
     by_cases hre:re=0
     ·subst hre;have HR:=aa (HS.out.trans (by rw[HN.out rfl,HLEN.out];rfl):iJ d=([],d.size,2));clear HN gK HS;go_wp2;go_ret3;exact aG.err HR.out dS.out _ rfl
     have Gg:(re==0)=false:=by simpa using hre
     have MT:(re != 0)=true:=by simpa using hre
     have HR:=aa (HS.out.trans (by rw[gK.out hre];rfl):iJ d=([],a+n+iK,re));clear HN gK HS;go_wp2;go_ret3;exact aG.err HR.out dS.out _ (by omega)
    obtain⟨j,rfl⟩:∃j:Nat,zi=(j:Int):=⟨zi.toNat,by omega⟩;have Gh:=hroom j rfl;rw[List.length_drop,HLEN.out]at Gh;have hel:(St.dn b).length=b.length+3:=by simp[St.dn]
    rw[hel]at Gh;have hE:=Ic j rfl;have tc:=Cn j rfl;obtain⟨x3,hx3⟩:∃x3,d.extract (a+n) (a+n+j)=x3:=⟨_,rfl⟩;have hc3:St.aZ d.1.1 (a+n) (a+n+j)=x3.1.1:=by rw[<-hx3,eW]
    have Vs:x3.size<=d.size:=by rw[<-hx3];simp;omega
    rw[hc3,lm]at hE tc;have eI:=λW=>qM x3 W (by omega)
    have hat:=yl x3;generalize mx x3=R at eI hat hE tc;obtain⟨rf,rc,iK,re⟩:=R;simp only at hE tc hat;have jg:=aa eI;have HE:=aa hE;have gY:=aa tc;have y6:¬(j:Int)<0:=by omega
    have y7:((a:Int)+n+j).toNat=a+n+j:=by omega
    have y8:(a:Int)+n<=(a:Int)+n+j:=by omega
    have y9:(a:Int)+n+j<=d.size:=by omega
    clear eI hE tc hno Iu Ic Cn hroom ur hel hc3;go_wp2_with fail;refine(HO.out _ (ac.refl _)).mono ?_;rintro e w2 ⟨hu2,rfl⟩;have aX:=aa hu2;clear hu2;go_wp2_with fail;refine(ey.out _ aX.out).mono ?_;rintro e w3 ⟨rfl,rfl⟩;go_wp2_with fail;refine(jg.out _).mono ?_;rintro e w6 ⟨A6,c6,rfl,_,_,_,dQ⟩;have dS:=aa (aX.out.trans dQ);clear dQ jg ey HO aX
    by_cases hre:re=0
    ·subst hre;have HST:=aa (HS.out.trans (by rw[gY.out rfl]):iJ d=St.jX d.1.1 (St.eA dE Lib.decDigits d.1.1 fuel (a+n+j+(b.length+3)) (r+1) (St.bk d.1.1 s (a+n) (a+n+j) (Lib.decDigits (r+1)))));have HIT:=aa (λW (hW:ac w6 W)=>ww (r+1) W (by omega) (CO.out.ai ((HU.out.trans dS.out).trans hW)));have hr1:((r+1:Nat):Int)=(r:Int)+1:=by omega
     rw[hr1]at HIT;clear HE gY HS;go_wp2_with fail;refine(HIT.out _ (ac.refl _)).mono ?_;rintro e w7 ⟨rfl,bR⟩;have Au:=aa ((HP.out.ai dS.out).ai bR);have mJ:=aa ((HU.out.trans dS.out).trans bR);have hun:=λW (hp:PV W w.1.size w.1.size d s) (hw:w.1.size<=W.1.size)=>wV W w.1.size w.1.size d ⟨(Lib.decDigits (r+1)).toArray⟩ s (a+n) (a+n+j) hp (by omega) (by omega) (by omega) fq (by omega) hw
     have q1:((a+n:Nat):Int)=(a:Int)+n:=by omega
     have q2:((a+n+j:Nat):Int)=(a:Int)+n+j:=by omega
     rw[q1,q2]at hun;have CR:=aa hun;have MU:=mJ.out.size;clear bR hun HIT dS HU HP q1 q2;go_wp2_with fail;refine(CR.out _ Au.out MU).mono ?_;rintro e w8 ⟨rfl,hp8,hbl8,_,_⟩;have VV:=aa hp8;have n5:=aa (ac.cy (Below.trans mJ.out.below hbl8));clear hp8 hbl8 CR Au mJ;go_wp2;exact⟨⟨a+n+j+(b.length+3),r+1,fuel,_,congrArg (Yp Yv) (by omega),congrArg (Yp Yv) (by omega),by omega,by omega,by omega,by first|(simp[St.bk];done)|(simp[St.bk];omega),by first|(simp[St.bk];done)|(simp[St.bk];omega),VV.out,HST.out,n5.out⟩,by simp[intOf];omega⟩
    have Gg:(re==0)=false:=by simpa using hre
    have MT:(re != 0)=true:=by simpa using hre
    have HR:=aa (HS.out.trans (by rw[HE.out hre];rfl):iJ d=([],a+n+iK,re));have mJ:=aa (HU.out.trans dS.out);clear HE gY HS HU dS;go_wp2;go_ret3;exact aG.err HR.out mJ.out _ (by omega)
  have Kr:a=d.size:=by omega
  have HL:=aa (wB wr w.1.size w.1.size d s HP.out (by omega) (by omega) (by omega) hsz);have HR:=aa (HS.out.trans (show St.jX d.1.1 (St.eA dE Lib.decDigits d.1.1 fuel a r s)=(St.cG d.1.1 s,0,0)by rw[St.ja (by rw[HLEN.out];omega)];rfl));have z:¬(a:Int)<d.size:=by omega
  go_wp2_with fail;refine HL.out.mono ?_;rintro e w3 ⟨A,c,rfl,lT,hq1,hq2,hbl⟩;have HE:=aa (And.intro lT (ac.cy (Below.trans HU.out.below hbl)));have mW:=aa hq1;clear lT hbl hq1 HL;go_wp2;go_ret3;unfold aG;rw[HR.out];exact⟨A,c,by simp[St.cG],HE.out.1,by simpa[St.cG]using mW.out,hq2,HE.out.2⟩
end
end Go.Proofs.YthoemdibbldndaaGreatDoor.Mk
namespace Go.Proofs.YthoemdibbldndaaGreatDoor.St
def yS(dE:List UInt8->Nat × Int)(d:List UInt8)(s:PS):Prop:=s.1.length % 2=0/\(∀i (h:i<s.1.length),s.1[i].1=decide (i % 2=1)/\(s.1[i].2.1=[] ↔ s.1[i].1=false)/\(s.1[i].1=true->(dE s.1[i].2.2).2=0))/\s.1.flatMap (·.2.2)=d.take s.2/\s.2<=d.length
theorem M2(dE:List UInt8->Nat × Int)(d:List UInt8):yS dE d ([],0):=⟨rfl,λi h=>by simp at h,by simp,by simp⟩
theorem AJ(d:List UInt8)(a b:Nat)(h:a<=b):d.take a++aZ d a b=d.take b:=by
 unfold aZ
 conv=>rhs;rw[<-List.take_append_drop a (d.take b)]
 rw[List.take_take,Nat.min_eq_left h]
theorem KT{dE:List UInt8->Nat × Int}{d:List UInt8}{s:PS}{a b:Nat}{key:List UInt8}(h:yS dE d s)(h1:s.2<=a)(h2:a<=b)(h3:b<=d.length)(hk:key≠[])(he:(dE (aZ d a b)).2=0):yS dE d (bk d s a b key):=by
 obtain⟨i1,i2,i3,i4⟩:=h;unfold bk;refine⟨by simp;omega,λi hi=>?_,?_,h3⟩
 ·simp only[List.length_append,List.length_cons,List.length_nil]at hi
  by_cases hlt:i<s.1.length
  ·simp only[List.getElem_append_left hlt];exact i2 i hlt
  simp only[List.getElem_append_right (Nat.le_of_not_lt hlt)];rcases(show i-s.1.length=0\/i-s.1.length=1 by omega)with hq|hq
  ·simp only[hq,List.getElem_cons_zero];refine⟨by rw[decide_eq_false (by omega)],by simp,by simp⟩
  simp only[hq,List.getElem_cons_succ,List.getElem_cons_zero];refine⟨by rw[decide_eq_true (by omega)],by simp[hk],λ_=>he⟩
 simp only[List.flatMap_append,List.flatMap_cons,List.flatMap_nil,List.append_nil];rw[i3,<-List.append_assoc,AJ d _ _ h1,AJ d _ _ h2]
def CV(dE:List UInt8->Nat × Int)(d:List UInt8)(ps:List Pt):Prop:=ps.length % 2=1/\(∀i (h:i<ps.length),ps[i].1=decide (i % 2=1)/\(ps[i].2.1=[] ↔ ps[i].1=false)/\(ps[i].1=true->(dE ps[i].2.2).2=0))/\ps.flatMap (·.2.2)=d
theorem M1{dE:List UInt8->Nat × Int}{d:List UInt8}{s:PS}(h:yS dE d s):CV dE d (cG d s):=by
 obtain⟨i1,i2,i3,i4⟩:=h;unfold cG;refine⟨by simp;omega,λi hi=>?_,?_⟩
 ·simp only[List.length_append,List.length_singleton]at hi
  by_cases hlt:i<s.1.length
  ·simp only[List.getElem_append_left hlt];exact i2 i hlt
  simp only[List.getElem_append_right (Nat.le_of_not_lt hlt)];have hq:i-s.1.length=0:=by omega
  simp only[hq,List.getElem_cons_zero];refine⟨by rw[decide_eq_false (by omega)],by simp,by simp⟩
 simp only[List.flatMap_append,List.flatMap_cons,List.flatMap_nil,List.append_nil];rw[i3];simp
end Go.Proofs.YthoemdibbldndaaGreatDoor.St
namespace Go.Proofs.YthoemdibbldndaaGreatDoor.St
theorem qH{d:List UInt8}{a:Nat}(h:¬d.length<=a):d.drop a≠[]:=by
 intro e;have:=congrArg List.length e
 simp at this;omega
theorem DV{dE:List UInt8->Nat × Int}{dig:Nat->List UInt8}(hd:∀n,dig n≠[]){d:List UInt8}:∀(fuel a r:Nat) (s s':PS),yS dE d s->s.2<=a->eA dE dig d fuel a r s=.ok s'->yS dE d s'
 | 0,a,r,s,s',hi,_,h=>by simp[eA]at h;subst h;exact hi
 | fuel+1,a,r,s,s',hi,ha,h=>by
  by_cases hl:d.length<=a
  ·rw[ja hl]at h;cases h;exact hi
  cases h1:dG (d.drop a)with
  | none=>rw[oE hl h1]at h;cases h
  | some x=>
   obtain⟨n,b⟩:=x;have hn:=su h1 (qH hl);rw[List.length_drop]at hn
   by_cases hb:b=[]
   ·subst hb;rw[jw hl h1]at h;exact DV hd fuel _ _ s s' hi (by omega) h
   by_cases hj:Lib.index (d.drop (a+n)) (dn b)<0
   ·by_cases he:(dE (d.drop (a+n))).2=0
    ·rw[mZ hl h1 hb hj he]at h;cases h
    rw[lU hl h1 hb hj he]at h;cases h
   obtain⟨j,mr⟩:∃j:Nat,Lib.index (d.drop (a+n)) (dn b)=(j:Int):=⟨_,(Int.toNat_of_nonneg (by omega)).symm⟩
   by_cases he:(dE (aZ d (a+n) (a+n+j))).2=0
   ·rw[lG hl h1 hb mr he]at h;have hr:=index_room mr (by simp[dn]);rw[List.length_drop]at hr;refine DV hd fuel _ _ _ s' (KT hi (by omega) (by omega) (by omega) (hd _) he) ?_ h
    show a+n+j<=_
    omega
   rw[oF hl h1 hb mr he]at h;cases h
theorem wE{dE:List UInt8->Nat × Int}{dig:Nat->List UInt8}{d:List UInt8}:∀(fuel a r:Nat) (s:PS) (x:Nat),eA dE dig d fuel a r s≠.error (x,0)
 | 0,a,r,s,x=>by simp[eA]
 | fuel+1,a,r,s,x=>by
  intro h
  by_cases hl:d.length<=a
  ·rw[ja hl]at h;cases h
  cases h1:dG (d.drop a)with
  | none=>rw[oE hl h1]at h;simp at h
  | some y=>
   obtain⟨n,b⟩:=y
   by_cases hb:b=[]
   ·subst hb;rw[jw hl h1]at h;exact wE fuel _ _ s x h
   by_cases hj:Lib.index (d.drop (a+n)) (dn b)<0
   ·by_cases he:(dE (d.drop (a+n))).2=0
    ·rw[mZ hl h1 hb hj he]at h;simp at h
    rw[lU hl h1 hb hj he]at h;simp only[Except.error.injEq,Prod.mk.injEq]at h;exact he h.2
   obtain⟨j,mr⟩:∃j:Nat,Lib.index (d.drop (a+n)) (dn b)=(j:Int):=⟨_,(Int.toNat_of_nonneg (by omega)).symm⟩
   by_cases he:(dE (aZ d (a+n) (a+n+j))).2=0
   ·rw[lG hl h1 hb mr he]at h;exact wE fuel _ _ _ x h
   rw[oF hl h1 hb mr he]at h;simp only[Except.error.injEq,Prod.mk.injEq]at h;exact he h.2
theorem EW{dE:List UInt8->Nat × Int}{dig:Nat->List UInt8}(hd:∀n,dig n≠[]){d:List UInt8}(h:(ix dE dig d).2.2=0):CV dE d (ix dE dig d).1:=by
 by_cases h0:65536<d.length
 ·unfold ix at h;rw[if_pos h0]at h;cases h
 rw[qw h0]at h |-;cases hr:eA dE dig d (d.length+1) 0 0 ([],0)with
 | error x=>
  obtain⟨a,er⟩:=x;rw[hr]at h;have:er=0:=h
  subst this;exact absurd hr (wE _ _ _ _ _)
 | ok s=>exact M1 (DV hd _ _ _ _ _ (M2 _ _) (by simp) hr)
theorem wD{dE:List UInt8->Nat × Int}{dig:Nat->List UInt8}{d:List UInt8}:∀(fuel fuel' a r:Nat) (s:PS),d.length-a<=fuel->d.length-a<=fuel'->eA dE dig d fuel a r s=eA dE dig d fuel' a r s
 | 0,fuel',a,r,s,h,_=>by rw[ja (by omega),ja (by omega)]
 | fuel+1,0,a,r,s,_,h=>by rw[ja (by omega),ja (by omega)]
 | fuel+1,fuel'+1,a,r,s,h,h'=>by
  by_cases hl:d.length<=a
  ·rw[ja hl,ja hl]
  cases h1:dG (d.drop a)with
  | none=>rw[oE hl h1,oE hl h1]
  | some y=>
   obtain⟨n,b⟩:=y;have hn:=su h1 (qH hl)
   by_cases hb:b=[]
   ·subst hb;rw[jw hl h1,jw hl h1];exact wD fuel fuel' _ _ _ (by omega) (by omega)
   by_cases hj:Lib.index (d.drop (a+n)) (dn b)<0
   ·by_cases he:(dE (d.drop (a+n))).2=0
    ·rw[mZ hl h1 hb hj he,mZ hl h1 hb hj he]
    rw[lU hl h1 hb hj he,lU hl h1 hb hj he]
   obtain⟨j,mr⟩:∃j:Nat,Lib.index (d.drop (a+n)) (dn b)=(j:Int):=⟨_,(Int.toNat_of_nonneg (by omega)).symm⟩
   by_cases he:(dE (aZ d (a+n) (a+n+j))).2=0
   ·rw[lG hl h1 hb mr he,lG hl h1 hb mr he];exact wD fuel fuel' _ _ _ (by omega) (by omega)
   rw[oF hl h1 hb mr he,oF hl h1 hb mr he]
end Go.Proofs.YthoemdibbldndaaGreatDoor.St
namespace Go.Proofs.YthoemdibbldndaaGreatDoor.St
def GU:List (List UInt8):=[[98,114],[105,109,103,32,97]]
def BY:List (List UInt8):=[[98],[105],[97,32,104,61,49]]
inductive eV (ns:Bool):List It->List It->Nat->Prop
 | nil:eV ns [] [] 0
 | text {f op:List It} {c:Nat} (t:List UInt8) (h:eV ns f op c):eV ns (aK f (1,t,0)) op c
 | slot {f op:List It} {c:Nat} (t:List UInt8) (ht:aF t=true) (h:eV ns f op c):eV ns (aK f (5,t,0)) op c
 | empty {f op:List It} {c:Nat} (t:List UInt8) (ht:t∈GU) (h:eV ns f op c):eV ns (aK f (4,t,(c:Int)+1)) op (c+1)
 | opened {f op:List It} {c:Nat} (t:List UInt8) (ht:t∈BY) (h:eV ns f op c):eV ns (aK f (2,t,(c:Int)+1)) (op++[(2,t,(c:Int)+1)]) (c+1)
 | closed {f op:List It} {c:Nat} (k:Nat) (hk:k<op.length) (hl:ns=true->k+1=op.length) (h:eV ns f op c):eV ns (aK f (3,nameOf op[k].2.1,op[k].2.2)) (op.take k++op.drop (k+1)) c
 | stray {f op:List It} {c:Nat} (hn:ns=false) (h:eV ns f op c):eV ns (aK f (3,[98],(c:Int)+1)) op (c+1)
theorem eV.nm{ns:Bool}{f op:List It}{c:Nat}(h:eV ns f op c):Nm f:=by
 induction h with
 | nil=>exact nQ
 | text t h ih=>exact eJ ih _
 | slot t ht h ih=>exact eJ ih _
 | empty t ht h ih=>exact eJ ih _
 | opened t ht h ih=>exact eJ ih _
 | closed k hk hl h ih=>exact eJ ih _
 | stray hn h ih=>exact eJ ih _
theorem eV.small{ns:Bool}{f op:List It}{c:Nat}(h:eV ns f op c):∀y∈op,y.2.1.length<=5/\y.1=2:=by
 induction h with
 | nil=>intro y hy;cases hy
 | text t h ih=>exact ih
 | slot t ht h ih=>exact ih
 | empty t ht h ih=>exact ih
 | opened t ht h ih=>
  intro y hy;rcases List.mem_append.1 hy with hy|hy
  ·exact ih y hy
  simp at hy;subst hy;simp[BY]at ht;rcases ht with rfl|rfl|rfl<;>simp
 | closed k hk hl h ih=>
  intro y hy;rcases List.mem_append.1 hy with hy|hy
  ·exact ih y (List.mem_of_mem_take hy)
  exact ih y (List.mem_of_mem_drop hy)
 | stray hn h ih=>exact ih
theorem wF(l:List UInt8):(nameOf l).length<=l.length:=(List.takeWhile_prefix _).length_le
end Go.Proofs.YthoemdibbldndaaGreatDoor.St
namespace Go.Proofs.YthoemdibbldndaaGreatDoor.St
def ol(x:It):Prop:=(x.1=1/\x.2.2=0)\/(x.1=5/\aF x.2.1=true/\x.2.2=0)\/((x.1=2\/x.1=4)/\aM x.2.1=true/\bE (nameOf x.2.1)=false/\1<=x.2.2/\x.2.2<=999)\/(x.1=3/\aF x.2.1=true/\bE x.2.1=false/\1<=x.2.2/\x.2.2<=999)
theorem sd(k:Int):aQ k=true ↔ k=2\/k=3\/k=4:=by unfold aQ;simp
theorem LO{t:List UInt8}(h:t∈BY):aM t=true/\bE (nameOf t)=false/\aF (nameOf t)=true:=by
 simp[BY]at h;rcases h with rfl|rfl|rfl<;>decide
theorem Sp{t:List UInt8}(h:t∈GU):aM t=true/\bE (nameOf t)=false:=by
 simp[GU]at h;rcases h with rfl|rfl<;>decide
theorem gw{f:List It}{x y:It}(h:y∈aK f x):y∈f\/y=x\/(y.1=1/\y.2.2=0/\x.1=1):=by
 rcases cL f with rfl|⟨a,b,rfl⟩
 ·rw[dU]at h
  split at h
  ·rename_i h1
   split at h
   ·cases h
   simp at h;subst h;exact .inr (.inr ⟨rfl,rfl,h1⟩)
  simp at h;exact .inr (.inl h)
 rw[cN]at h
 split at h
 ·rename_i h1
  split at h
  ·exact .inl h
  split at h
  ·rcases List.mem_append.1 h with h|h
   ·exact .inl (List.mem_append_left _ h)
   simp at h;subst h;exact .inr (.inr ⟨rfl,rfl,h1⟩)
  rcases List.mem_append.1 h with h|h
  ·exact .inl h
  simp at h;subst h;exact .inr (.inr ⟨rfl,rfl,h1⟩)
 rcases List.mem_append.1 h with h|h
 ·exact .inl h
 simp at h;exact .inr (.inl h)
theorem gO{f:List It}{x:It}(h:x.1≠1):aK f x=f++[x]:=by unfold aK;rw[if_neg h]
theorem ks(f:List It)(x:It):aE (f++[x])=aE f++(if x.1=1 then x.2.1.map (λc=>((1:Int),[c],(0:Int)))else[x]):=by simp[aE]
theorem BE(f:List It)(t:List UInt8):aE (aK f (1,t,0))=aE f++t.map (λc=>((1:Int),[c],(0:Int))):=by
 rcases cL f with rfl|⟨a,b,rfl⟩
 ·rw[dU];simp only[if_true]
  split
  ·rename_i h;subst h;simp[aE]
  simp[aE]
 rw[cN];simp only[if_true]
 split
 ·rename_i h;subst h;simp
 split
 ·rename_i h1
  rw[ks,ks,if_pos h1];simp
 rw[ks (a++[b])];simp
theorem K8(t:List UInt8)(op:List It)(c:Nat):fy (t.map (λc=>((1:Int),[c],(0:Int)))) op c=some (op,c):=by
 induction t with
 | nil=>rfl
 | cons d t ih=>
  rw[List.map_cons,fy];simp only[stepT];exact ih
def eZ(f:List It):Prop:=f.Pairwise λy x=>aQ x.1=true->bH x y=false
structure iQ (f op:List It) (c:Nat):Prop where
 nm:Nm f
 items:∀x∈f,(x.1=1/\x.2.2=0)\/(x.1=5/\aF x.2.1=true/\x.2.2=0)\/((x.1=2\/x.1=4)/\aM x.2.1=true/\bE (nameOf x.2.1)=false/\1<=x.2.2/\x.2.2<=c)\/(x.1=3/\aF x.2.1=true/\bE x.2.1=false/\1<=x.2.2/\x.2.2<=c)
 bH:eZ f
 ok:fy (aE f) [] 0=some (op,c)
 opens:∀o∈op,o.1=2/\o.2.1∈BY/\1<=o.2.2/\o.2.2<=c/\∀y∈f,aQ y.1=true->y.2.2=o.2.2->y=o
 apart:op.Pairwise λa b=>a.2.2≠b.2.2
theorem vV{x y:It}(h:y.2.2≠x.2.2):bH x y=false:=by unfold bH;simp[h]
theorem C2{x y:It}(h:aQ y.1=false):bH x y=false:=by unfold bH;simp[h]
theorem jb{f:List It}{x:It}(h:eZ f)(hx:aQ x.1=true->∀y∈f,bH x y=false):eZ (f++[x]):=by
 unfold eZ;rw[List.pairwise_append];exact⟨h,by simp,λy hy z hz=>by simp at hz;subst hz;exact λht=>hx ht y hy⟩
theorem Ej{f g:List It}(h:eZ (f++g)):eZ f:=(List.pairwise_append.1 h).1
theorem Ek{f:List It}(h:eZ f)(t:List UInt8):eZ (aK f (1,t,0)):=by
 have hn:∀u:List UInt8,aQ ((1,u,0):It).1=true->False:=λu hu=>by simp[aQ]at hu
 rcases cL f with rfl|⟨a,b,rfl⟩
 ·rw[dU];simp only[if_true]
  split
  ·exact List.Pairwise.nil
  simp[eZ]
 rw[cN];simp only[if_true]
 split
 ·exact h
 split
 ·exact jb (Ej h) λhu=>(hn _ hu).elim
 exact jb h λhu=>(hn _ hu).elim
theorem Jj:iQ [] [] 0:=⟨nQ,(λ_ h=>by cases h),List.Pairwise.nil,rfl,(λ_ h=>by cases h),List.Pairwise.nil⟩
theorem FD{f op:List It}{c:Nat}(h:iQ f op c)(t:List UInt8):iQ (aK f (1,t,0)) op c:=by
 refine⟨eJ h.nm _,λx hx=>?_,Ek h.bH t,?_,λo ho=>?_,h.apart⟩
 ·rcases gw hx with hx|rfl|⟨h1,h2,_⟩
  ·exact h.items x hx
  ·exact .inl ⟨rfl,rfl⟩
  exact .inl ⟨h1,h2⟩
 ·rw[BE,kM _ _ _ _ h.ok];exact K8 _ _ _
 obtain⟨h1,h2,h3,h4,h5⟩:=h.opens o ho;refine⟨h1,h2,h3,h4,λy hy ht he=>?_⟩;rcases gw hy with hy|rfl|⟨g1,_,_⟩
 ·exact h5 y hy ht he
 ·simp[aQ]at ht
 rw[g1]at ht;simp[aQ]at ht
theorem FC{f op:List It}{c:Nat}(h:iQ f op c)(t:List UInt8)(hn:aF t=true):iQ (aK f (5,t,0)) op c:=by
 refine⟨eJ h.nm _,λx hx=>?_,?_,?_,λo ho=>?_,h.apart⟩
 ·rcases gw hx with hx|rfl|⟨h1,h2,_⟩
  ·exact h.items x hx
  ·exact .inr (.inl ⟨rfl,hn,rfl⟩)
  exact .inl ⟨h1,h2⟩
 ·rw[gO (by simp)];exact jb h.bH λhu=>by simp[aQ]at hu
 ·rw[gO (by simp),ks,kM _ _ _ _ h.ok];rfl
 obtain⟨h1,h2,h3,h4,h5⟩:=h.opens o ho;refine⟨h1,h2,h3,h4,λy hy ht he=>?_⟩;rcases gw hy with hy|rfl|⟨g1,_,_⟩
 ·exact h5 y hy ht he
 ·simp[aQ]at ht
 rw[g1]at ht;simp[aQ]at ht
theorem KP{f op:List It}{c:Nat}(h:iQ f op c):∀y∈f,y.2.2<=c:=by
 intro y hy;rcases h.items y hy with⟨_,h2⟩|⟨_,_,h2⟩|⟨_,_,_,_,h2⟩|⟨_,_,_,_,h2⟩<;>omega
theorem DX{c:Nat}{x:It}(h:(x.1=1/\x.2.2=0)\/(x.1=5/\aF x.2.1=true/\x.2.2=0)\/((x.1=2\/x.1=4)/\aM x.2.1=true/\bE (nameOf x.2.1)=false/\1<=x.2.2/\x.2.2<=c)\/(x.1=3/\aF x.2.1=true/\bE x.2.1=false/\1<=x.2.2/\x.2.2<=c)) :
  (x.1=1/\x.2.2=0)\/(x.1=5/\aF x.2.1=true/\x.2.2=0)\/((x.1=2\/x.1=4)/\aM x.2.1=true/\bE (nameOf x.2.1)=false/\1<=x.2.2/\x.2.2<=((c+1:Nat):Int))\/(x.1=3/\aF x.2.1=true/\bE x.2.1=false/\1<=x.2.2/\x.2.2<=((c+1:Nat):Int)):=by
 rcases h with h|h|⟨h1,h2,h3,h4,h5⟩|⟨h1,h2,h3,h4,h5⟩
 ·exact .inl h
 ·exact .inr (.inl h)
 ·exact .inr (.inr (.inl ⟨h1,h2,h3,h4,by omega⟩))
 exact .inr (.inr (.inr ⟨h1,h2,h3,h4,by omega⟩))
theorem EY{f op:List It}{c:Nat}(h:iQ f op c)(t:List UInt8)(hn:t∈GU):iQ (aK f (4,t,(c:Int)+1)) op (c+1):=by
 have aa:=KP h;obtain⟨q1,q2⟩:=Sp hn;refine⟨eJ h.nm _,λx hx=>?_,?_,?_,λo ho=>?_,h.apart⟩
 ·rcases gw hx with hx|rfl|⟨h1,h2,_⟩
  ·exact DX (h.items x hx)
  ·exact .inr (.inr (.inl ⟨.inr rfl,q1,q2,by simp only;omega,by simp only;omega⟩))
  exact .inl ⟨h1,h2⟩
 ·rw[gO (by simp)];exact jb h.bH λ_ y hy=>vV (by have:=aa y hy;simp only;omega)
 ·rw[gO (by simp),ks,kM _ _ _ _ h.ok];simp[fy,stepT]
 obtain⟨h1,h2,h3,h4,h5⟩:=h.opens o ho;refine⟨h1,h2,h3,by omega,λy hy ht he=>?_⟩;rcases gw hy with hy|rfl|⟨g1,_,_⟩
 ·exact h5 y hy ht he
 ·simp only at he;omega
 rw[g1]at ht;simp[aQ]at ht
theorem FB{f op:List It}{c:Nat}(h:iQ f op c)(t:List UInt8)(hn:t∈BY):iQ (aK f (2,t,(c:Int)+1)) (op++[(2,t,(c:Int)+1)]) (c+1):=by
 have aa:=KP h;obtain⟨q1,q2,q3⟩:=LO hn;refine⟨eJ h.nm _,λx hx=>?_,?_,?_,λo ho=>?_,?_⟩
 ·rcases gw hx with hx|rfl|⟨h1,h2,_⟩
  ·exact DX (h.items x hx)
  ·exact .inr (.inr (.inl ⟨.inl rfl,q1,q2,by simp only;omega,by simp only;omega⟩))
  exact .inl ⟨h1,h2⟩
 ·rw[gO (by simp)];exact jb h.bH λ_ y hy=>vV (by have:=aa y hy;simp only;omega)
 ·rw[gO (by simp),ks,kM _ _ _ _ h.ok];simp[fy,stepT]
 ·rcases List.mem_append.1 ho with ho|ho
  ·obtain⟨h1,h2,h3,h4,h5⟩:=h.opens o ho;refine⟨h1,h2,h3,by omega,λy hy ht he=>?_⟩;rcases gw hy with hy|rfl|⟨g1,_,_⟩
   ·exact h5 y hy ht he
   ·simp only at he;omega
   rw[g1]at ht;simp[aQ]at ht
  simp at ho;subst ho;refine⟨rfl,hn,by simp only;omega,by simp only;omega,λy hy ht he=>?_⟩;rcases gw hy with hy|rfl|⟨g1,_,_⟩
  ·have:=aa y hy;simp only at he;omega
  ·rfl
  rw[g1]at ht;simp[aQ]at ht
 rw[List.pairwise_append];refine⟨h.apart,by simp,λa ha b hb=>?_⟩;simp at hb;subst hb;have:=(h.opens a ha).2.2.2.1
 simp only;omega
theorem EX{f op:List It}{o:It}{c:Nat}(h:iQ f (op++[o]) c):iQ (aK f (3,nameOf o.2.1,o.2.2)) op c:=by
 obtain⟨o1,o2,o3,o4,o5⟩:=h.opens o (by simp);obtain⟨q1,q2,q3⟩:=LO o2;have hap:=List.pairwise_append.1 h.apart;refine⟨eJ h.nm _,λx hx=>?_,?_,?_,λp hp=>?_,hap.1⟩
 ·rcases gw hx with hx|rfl|⟨h1,h2,_⟩
  ·exact h.items x hx
  ·exact .inr (.inr (.inr ⟨rfl,q3,q2,o3,o4⟩))
  exact .inl ⟨h1,h2⟩
 ·rw[gO (by simp)];refine jb h.bH λ_ y hy=>?_
  cases ht:aQ y.1
  ·exact C2 ht
  by_cases he:y.2.2=o.2.2
  ·have:=o5 y hy ht he
   subst this;unfold bH;simp[o1]
  exact vV (by simpa using he)
 ·rw[gO (by simp),ks,kM _ _ _ _ h.ok];simp[fy,stepT]
 obtain⟨h1,h2,h3,h4,h5⟩:=h.opens p (by simp[hp]);refine⟨h1,h2,h3,h4,λy hy ht he=>?_⟩;rcases gw hy with hy|rfl|⟨g1,_,_⟩
 ·exact h5 y hy ht he
 ·have:=hap.2.2 p hp o (by simp)
  simp only at he;exact absurd he.symm this
 rw[g1]at ht;simp[aQ]at ht
theorem MA{f op:List It}{c:Nat}(h:eV true f op c):iQ f op c:=by
 induction h with
 | nil=>exact Jj
 | text t h ih=>exact FD ih t
 | slot t ht h ih=>exact FC ih t ht
 | empty t ht h ih=>exact EY ih t ht
 | opened t ht h ih=>exact FB ih t ht
 | @closed f op c k hk hl h ih=>
  have hk2:=hl rfl;have e1:op.drop (k+1)=[]:=List.drop_of_length_le (by omega)
  have e2:op=op.take k++[op[k]]:=by
   conv=>lhs;rw[<-List.take_append_drop k op,List.drop_eq_getElem_cons hk,e1]
  rw[e1,List.append_nil];rw[e2]at ih;have:=EX ih
  simpa using this
 | stray hn h ih=>cases hn
structure SO (f:List It):Prop where
 nm:Nm f
 items:∀x∈f,ol x
 bH:eZ f
 ok:∃c,fy (aE f) [] 0=some ([],c)
theorem Kf{f:List It}{c:Nat}(h:eV true f [] c)(hc:c<=999):SO f:=by
 have hi:=MA h;refine⟨hi.nm,λx hx=>?_,hi.bH,c,hi.ok⟩;rcases hi.items x hx with h|h|⟨h1,h2,h3,h4,h5⟩|⟨h1,h2,h3,h4,h5⟩
 ·exact .inl h
 ·exact .inr (.inl h)
 ·exact .inr (.inr (.inl ⟨h1,h2,h3,h4,by omega⟩))
 exact .inr (.inr (.inr ⟨h1,h2,h3,h4,by omega⟩))
theorem Nk{f:List It}(h:∀x∈f,ol x):∀p∈aE f,tI p:=by
 intro p hp;unfold aE at hp;obtain⟨x,hx,hp⟩:=List.mem_flatMap.1 hp;have hg:=h x hx
 split at hp
 ·obtain⟨c,_,rfl⟩:=List.mem_map.1 hp;exact .inl ⟨c,rfl⟩
 rename_i h1
 simp at hp;subst hp;obtain⟨k,t,i⟩:=p;simp only[ol]at hg h1;rcases hg with⟨g,_⟩|⟨rfl,g,rfl⟩|⟨rfl|rfl,g1,g2,_⟩|⟨rfl,g1,g2,_⟩
 ·exact absurd g h1
 ·exact .inr (.inl ⟨t,rfl,g⟩)
 ·exact .inr (.inr (.inl ⟨t,i,.inl rfl,g1,g2⟩))
 ·exact .inr (.inr (.inl ⟨t,i,.inr rfl,g1,g2⟩))
 exact .inr (.inr (.inr ⟨t,i,rfl,g1,g2⟩))
end Go.Proofs.YthoemdibbldndaaGreatDoor.St
namespace Go.Proofs.YthoemdibbldndaaGreatDoor.St
def tH(b R:List UInt8):Prop:=∀t j,j<R.length->Lib.occAt (R++t) (dn b) j=false
theorem PD(b:List UInt8):tH b []:=λt j h=>by simp at h
theorem PC{b R S:List UInt8}(h:tH b R)(k:tH b S):tH b (R++S):=by
 intro t j hj
 by_cases hlt:j<R.length
 ·rw[List.append_assoc];exact h _ j hlt
 have:=k t (j-R.length) (by rw[List.length_append]at hj;omega)
 unfold Lib.occAt at this |-;rw[List.append_assoc,List.drop_append,List.drop_of_length_le (by omega),List.nil_append];exact this
theorem pA{b R:List UInt8}(h:∀c∈R,c.toNat≠60):tH b R:=by
 intro t j hj;unfold Lib.occAt
 have e:(R++t).drop j=R[j] :: (R++t).drop (j+1):=by
  rw[List.drop_eq_getElem_cons (by simp;omega),List.getElem_append_left hj]
 rw[e];have hc:=h R[j] (List.getElem_mem hj)
 show((60:UInt8)==R[j]&&_)=false
 have:((60:UInt8)==R[j])=false:=by
  rw[beq_eq_false_iff_ne];intro e;rw[<-e]at hc;exact hc rfl
 rw[this];rfl
theorem zS{b u:List UInt8}(hb:bE b=true)(hu:∀c∈u,c.toNat≠62/\c.toNat≠60)(h:u≠47 :: b):tH b ([60]++u++[62]):=by
 intro t j hj;cases j with
 | zero=>
  rw[Bool.eq_false_iff];intro e;unfold Lib.occAt at e;rw[List.drop_zero]at e;obtain⟨x,hx⟩:=List.isPrefixOf_iff_prefix.1 e
  have Dn:∀c∈b,c.toNat≠62:=by
   unfold bE at hb;rw[decide_eq_true_eq]at hb;rcases hb with rfl|rfl|rfl|rfl|rfl<;>intro c hc<;>simp at hc<;>rcases hc with rfl|rfl|rfl|rfl|rfl<;>decide
  have e2:u++62 :: t=47 :: b++62 :: x:=by
   have:(60:UInt8) :: (u++62 :: t)=60 :: (47 :: b++62 :: x):=by simpa[dn]using hx.symm
   simpa using this
  have tw:∀(v w:List UInt8),(∀c∈v,c.toNat≠62)->(v++62 :: w).takeWhile (λc=>decide (c.toNat≠62))=v:=λv w hv=>by
   rw[List.takeWhile_append_of_pos (λc hc=>decide_eq_true (hv c hc)),List.takeWhile_cons_of_neg (by simp)];simp
  have:=congrArg (List.takeWhile (λc:UInt8=>decide (c.toNat≠62))) e2
  rw[tw u t (λc hc=>(hu c hc).1),tw (47 :: b) x (λc hc=>by rcases List.mem_cons.1 hc with rfl|hc;decide;exact Dn c hc)]at this;exact h this
 | succ j=>
  have hf:=pA (b:=b) (R:=u++[62]) (λc hc=>by
   rcases List.mem_append.1 hc with hc|hc
   ·exact(hu c hc).2
   simp at hc;subst hc;decide)
  have:=hf t j (by simp at hj |-;omega)
  unfold Lib.occAt at this |-;simpa using this
def Cf(p:It)(b:List UInt8):Prop:=b=aL 1 p\/(p=(1,[62],0)/\b=[38,103,116,59])\/(p=(1,[125],0)/\b=[38,114,98,59])
theorem Fb{p:It}{b:List UInt8}(h:tI p)(hf:Cf p b):j5 b7 b p:=by
 rcases hf with rfl|⟨rfl,rfl⟩|⟨rfl,rfl⟩
 ·exact yj h
 ·exact MG
 exact No
theorem Mm(c:UInt8):∀d∈bl 1 c,d.toNat≠60:=by
 unfold bl;rw[if_pos rfl];intro d hd
 split at hd
 ·simp at hd;rcases hd with rfl|rfl|rfl|rfl<;>decide
 split at hd
 ·simp at hd;rcases hd with rfl|rfl|rfl|rfl|rfl<;>decide
 split at hd
 ·simp at hd;rcases hd with rfl|rfl|rfl|rfl<;>decide
 rename_i h _ _
 simp at hd;subst hd;exact h
theorem Kb{b:List UInt8}(hb:bE b=true){p:It}{R:List UInt8}(h:tI p)(hf:Cf p R):tH b R:=by
 rcases hf with rfl|⟨rfl,rfl⟩|⟨rfl,rfl⟩
 ·rcases h with⟨c,rfl⟩|⟨t,rfl,ht⟩|⟨t,i,rfl|rfl,ht,hn⟩|⟨t,i,rfl,ht,hn⟩
  ·have e:aL 1 (1,[c],0)=bl 1 c:=by simp[aL]
   rw[e];exact pA (Mm c)
  ·have e:aL 1 (5,t,0)=[123]++t++[125]:=by simp[aL]
   rw[e];refine pA λc hc=>?_
   simp at hc;rcases hc with rfl|hc|rfl
   ·decide
   ·exact(rC ht c hc).2.1
   decide
  ·have e:aL 1 (2,t,i)=[60]++t++[62]:=by simp[aL]
   rw[e];exact zS hb (l6 ht) (λe=>(l7 ht).2.1 (by rw[e];rfl))
  ·have e:aL 1 (4,t,i)=[60]++(t++[47])++[62]:=by simp[aL]
   rw[e];refine zS hb (λc hc=>?_) (λe=>?_)
   ·rcases List.mem_append.1 hc with hc|hc
    ·exact l6 ht c hc
    simp at hc;subst hc;decide
   obtain⟨h0,h1,_⟩:=l7 ht;cases t with
   | nil=>exact h0 rfl
   | cons c r=>simp at e;simp[e.1]at h1
  have e:aL 1 (3,t,i)=[60]++(47 :: t)++[62]:=by simp[aL]
  rw[e];refine zS hb (λc hc=>?_) (λe=>?_)
  ·rcases List.mem_cons.1 hc with rfl|hc
   ·decide
   have:=rC ht c hc;exact⟨this.1,this.2.1⟩
  simp at e;subst e;rw[hb]at hn;cases hn
 ·exact pA (by simp)
 exact pA (by simp)
theorem Dj{b:List UInt8}(hb:bE b=true):∀ {ps:List (List UInt8 × It)},(∀q∈ps,tI q.2/\Cf q.2 q.1)->tH b (a6 ps)
 | [],_=>PD b
 | p :: ps,h=>PC (Kb hb (h p (by simp)).1 (h p (by simp)).2) (Dj hb λq hq=>h q (by simp[hq]))
theorem IB{b R:List UInt8}(h:tH b R)(t:List UInt8):Lib.index (R++(dn b++t)) (dn b)=(R.length:Int):=by
 refine Lib.index_first (by simp) ?_ λj hj=>h _ j hj
 unfold Lib.occAt;rw[List.drop_left];exact List.isPrefixOf_iff_prefix.2 (List.prefix_append _ _)
theorem IR{b at' rest:List UInt8}(hb:bE b=true)(hc:aM (b++at')=true)(hn:nameOf (b++at')=b):dG ([60]++(b++at')++[62]++rest)=some ((b++at').length+2,b):=by
 have h1:=yL (rest:=rest) (λc hcc=>(l6 hc c hcc).1) (BU hc);have hh:([60]++(b++at')++[62]++rest).head?=some 60:=by simp
 have hp:([60,33,45,45]:List UInt8).isPrefixOf ([60]++(b++at')++[62]++rest)=false:=by
  rw[Bool.eq_false_iff];intro e;rw[xC e]at h1;cases h1
 rw[nd hh hp,h1];simp only;rw[hn,if_pos hb];simp
def jx(r:Nat):List UInt8:=if r=0 then[112]else if r=1 then[108,105]else[116,105,116,108,101]
def oo(r:Nat):List UInt8:=if r=0 then[]else[32,99,61,34,49,34]
def lq(r:Nat):List UInt8:=if r=0 then[]else if r=1 then[10]else[60,104,114,47,62]
def jv(h:Nat):List UInt8:=if h=0 then[]else if h=1 then[60,104,116,109,108,62]else[60,33,45,45,32,60,112,62,32,45,45,62,120]
theorem Nb(r q:Nat):bE (jx r)=true/\aM (jx r++oo q)=true/\nameOf (jx r++oo q)=jx r:=by
 unfold jx oo
 by_cases h0:r=0<;>by_cases h1:r=1<;>by_cases h2:q=0<;>simp only[h0,h1,h2,if_true,if_false]<;>decide
section
variable {dE:List UInt8->Nat × Int} {dig:Nat->List UInt8} {d:List UInt8}
theorem p7{d x y:List UInt8}{a:Nat}(h:d.drop a=x++y):d.drop (a+x.length)=y:=by rw[<-List.drop_drop,h,List.drop_left]
theorem oC{d x:List UInt8}{a:Nat}(h:d.drop a=x)(h0:x≠[]):¬d.length<=a:=by
 intro e;rw[List.drop_of_length_le e]at h;exact h0 h.symm
theorem C5{d x y:List UInt8}{a:Nat}(h:d.drop a=x++y):aZ d a (a+x.length)=x:=by
 unfold aZ;rw[List.drop_take,h,show a+x.length-a=x.length by omega,List.take_left]
def od(dE:List UInt8->Nat × Int)(dig:Nat->List UInt8)(d:List UInt8)(a r:Nat)(s:PS):Except (Nat × Int) PS:=eA dE dig d (d.length-a) a r s
theorem Ea{fuel a r:Nat}{s:PS}(h:d.length-a<=fuel):eA dE dig d fuel a r s=od dE dig d a r s:=wD _ _ _ _ _ h (Nat.le_refl _)
theorem Pw{a r:Nat}{s:PS}(h:d.length<=a):od dE dig d a r s=.ok s:=ja h
theorem Dm{d:List UInt8}{a:Nat}(h:¬d.length<=a):∃m,d.length-a=m+1/\∀n,1<=n->d.length-(a+n)<=m:=⟨d.length-a-1,by omega,λn hn=>by omega⟩
theorem py{a r n:Nat}{s:PS}(h:¬d.length<=a)(h1:dG (d.drop a)=some (n,[])):od dE dig d a r s=od dE dig d (a+n) r s:=by
 obtain⟨m,hm,h2⟩:=Dm h;have hn:=su h1 (qH h)
 conv=>lhs;unfold od
 rw[hm,jw h h1];exact Ea (h2 n hn.1)
theorem M8{a r n j:Nat}{b:List UInt8}{s:PS}(h:¬d.length<=a)(h1:dG (d.drop a)=some (n,b))(hb:b≠[])(hj:Lib.index (d.drop (a+n)) (dn b)=(j:Int))(he:(dE (aZ d (a+n) (a+n+j))).2=0) :
  od dE dig d a r s=od dE dig d (a+n+j+(b.length+3)) (r+1) (bk d s (a+n) (a+n+j) (dig (r+1))):=by
 obtain⟨m,hm,h2⟩:=Dm h
 conv=>lhs;unfold od
 rw[hm,lG h h1 hb hj he];refine Ea ?_;have:=h2 (n+j+(b.length+3)) (by omega)
 omega
theorem LF(h:¬65536<d.length):ix dE dig d=jX d (od dE dig d 0 0 ([],0)):=by
 rw[qw h,Ea (by omega)]
theorem LV{b raw R:List UInt8}{at':List UInt8}(hb:bE b=true)(hc:aM (b++at')=true)(hn:nameOf (b++at')=b)(hq:tH b raw)(he:(dE raw).2=0){a r:Nat}{s:PS}
  (hd:d.drop a=[60]++(b++at')++[62]++(raw++(dn b++R))):od dE dig d a r s=od dE dig d (a+((b++at').length+2)+raw.length+(b.length+3)) (r+1) (bk d s (a+((b++at').length+2)) (a+((b++at').length+2)+raw.length) (dig (r+1))) /\
   d.drop (a+((b++at').length+2)+raw.length+(b.length+3))=R/\aZ d (a+((b++at').length+2)) (a+((b++at').length+2)+raw.length)=raw:=by
 have h1:dG (d.drop a)=some ((b++at').length+2,b):=by rw[hd];exact IR hb hc hn
 have hl:=oC hd (by simp)
 have hd1:d.drop (a+((b++at').length+2))=raw++(dn b++R):=by
  have:=p7 hd
  rw[<-this];congr 1;simp;omega
 have hcut:=C5 hd1;have hj:Lib.index (d.drop (a+((b++at').length+2))) (dn b)=(raw.length:Int):=by rw[hd1];exact IB hq R
 refine⟨M8 hl h1 (tO hb).1 hj (by rw[hcut];exact he),?_,hcut⟩;have:=p7 (p7 hd1)
 rw[<-this];congr 1;simp[dn]
theorem LK{a r q:Nat}{s:PS}{R:List UInt8}(hq:q<3)(hd:d.drop a=lq q++R):od dE dig d a r s=od dE dig d (a+(lq q).length) r s/\d.drop (a+(lq q).length)=R:=by
 refine⟨?_,p7 hd⟩;rcases(show q=0\/q=1\/q=2 by omega)with rfl|rfl|rfl
 ·rfl
 ·exact py (oC hd (by simp[lq])) (by rw[hd];exact rD (by simp[lq]))
 refine py (oC hd (by simp[lq])) ?_;rw[hd]
 show dG (60 :: 104 :: 114 :: 47 :: 62 :: R)=some (5,[])
 rw[nd rfl rfl];have:=yL (t:=[104,114,47]) (rest:=R) (k:=4) (u:=[104,114]) (by decide) (by decide)
 have e:([60]++[104,114,47]++[62]++R:List UInt8)=60 :: 104 :: 114 :: 47 :: 62 :: R:=rfl;rw[e]at this;rw[this];rfl
theorem nM{h r:Nat}{s:PS}{R:List UInt8}(hh:h<3)(hd:d=jv h++R):od dE dig d 0 r s=od dE dig d (jv h).length r s/\d.drop (jv h).length=R:=by
 have hd0:d.drop 0=jv h++R:=by rw[List.drop_zero];exact hd
 refine⟨?_,by rw[hd,List.drop_left]⟩;rcases(show h=0\/h=1\/h=2 by omega)with rfl|rfl|rfl
 ·rfl
 ·have ho:dG (d.drop 0)=some (6,[]):=by
   rw[hd0]
   show dG (60 :: 104 :: 116 :: 109 :: 108 :: 62 :: R)=some (6,[])
   rw[nd rfl rfl];have:=yL (t:=[104,116,109,108]) (rest:=R) (k:=2) (u:=[104,116,109,108]) (by decide) (by decide)
   have e:([60]++[104,116,109,108]++[62]++R:List UInt8)=60 :: 104 :: 116 :: 109 :: 108 :: 62 :: R:=rfl;rw[e]at this;rw[this];rfl
  rw[py (oC hd0 (by simp[jv])) ho];rfl
 have hi:Lib.index ([32,60,112,62,32,45,45,62,120]++R) [45,45,62]=((5:Nat):Int):=by
  refine Lib.index_first (by simp) (by rfl) λj hj=>?_
  rcases(show j=0\/j=1\/j=2\/j=3\/j=4 by omega)with rfl|rfl|rfl|rfl|rfl<;>rfl
 have ho:dG (d.drop 0)=some (12,[]):=by
  rw[hd0,ss (by rfl)]
  show(if Lib.index ([32,60,112,62,32,45,45,62,120]++R) [45,45,62]<0 then none else some ((Lib.index ([32,60,112,62,32,45,45,62,120]++R) [45,45,62]).toNat+7,[]))=_
  rw[hi];rfl
 have hd1:d.drop 12=120 :: R:=by rw[hd];rfl
 rw[py (oC hd0 (by simp[jv])) ho,show 0+12=12 from rfl,py (oC hd1 (by simp)) (by rw[hd1];exact rD (by simp))];rfl
end
end Go.Proofs.YthoemdibbldndaaGreatDoor.St
