/- The contracts of the reference's find, tag and markup element: what they give is. -/
import Derived.Test.YthoemdibbldndaaGreatDoorRdsA
import Derived.LoopN
import Derived.Test.YthoemdibbldndaaGreatDoorRDecT
import Derived.Test.YthoemdibbldndaaGreatDoorRefUnit
set_option linter.all false
set_option maxHeartbeats 0
set_option maxRecDepth 20000
open Go.Value renaming int->Yp,string->Yq,slice->Yr,tuple->Yu
open Go.IntKind renaming i64->Yv
open Go.Obj renaming cells->Yw
open Go.Ending renaming returned->Yx
open Go renaming World->YA
namespace Go.Proofs.YthoemdibbldndaaGreatDoor
open Go.RowKit
section
def mc(s t:List UInt8)(a:Nat):Int:=if Lib.index (s.drop a) t<0 then -1 else a+Lib.index (s.drop a) t
def SM(s t:ByteArray)(a:Nat)(w:YA)(s7:Value)(wr:YA):Prop:=∃k:Nat,s7=Yp Yv (a+k:Nat)/\a+k<=s.size+1/\Lib.NoOcc (s.1.1.drop a) t.1.1 k/\w=wr
theorem uI(s t:ByteArray)(a:Nat)(w:YA)(ht:1<=t.size)(hts:t.size<=1000000)(ha:a<=s.size)(hs:s.size<=4611686018427387904) :
  Calls Tryz.prog 136 #[Yq s,Yq t,Yp Yv a] w λe w'=>e=Yx (Yp Yv (mc s.1.1 t.1.1 a))/\w=w':=by
 have hte:t.1.1≠[]:=by intro e;have:=St.aB t;rw[e]at this;simp at this;omega
 go_enter Tryz.func136,Tryz.ntmps136;go_wp2;go_loopw [7] (λs7 wr=>SM s t a w s7 wr) (λs7 _=>s.size+2-(intOf s7).toNat)
 case atStart=>exact⟨0,rfl,by omega,Lib.NoOcc.zero _ _,rfl⟩
 case round=>
  obtain⟨k,rfl,hk,hno,rfl⟩:=hrel
  by_cases hlt:a+k+t.size<=s.size
  ·have z1:(((a+k:Nat):Int)+(t.size:Int))<=(s.size:Int):=by omega
   have hdd:(s.1.1.drop a).drop k=s.1.1.drop (a+k):=by rw[List.drop_drop]
   obtain⟨x,hx⟩:∃x,s.extract (a+k) (a+k+t.size)=x:=⟨_,rfl⟩
   have hxl:x.1.1=(s.1.1.drop (a+k)).take t.1.1.length:=by
    rw[<-hx,Lib.extract_data,St.aB];congr 1;omega
   have RF:(x.toList==t.toList)=Lib.occAt (s.1.1.drop a) t.1.1 k:=by
    unfold Lib.occAt;rw[hdd,<-St.ng,Lib.toList_data,Lib.toList_data,hxl]
   have y1:((a+k:Nat):Int)<=((a+k:Nat):Int)+(t.size:Int):=by omega
   have hlen:(s.1.1.drop a).length=s.size-a:=by simp
   generalize hn:a+k=n at *;have qc:(n:Int)+(t.size:Int)=((n+t.size:Nat):Int):=by omega
   cases ho:Lib.occAt (s.1.1.drop a) t.1.1 k
   ·rw[ho]at RF;have kU:=aa (hno.succ ho);clear hno ho hxl hdd hlen hte qc;go_wp2;exact⟨⟨k+1,congrArg (Yp Yv) (by omega),by omega,kU.out,by trivial⟩,by simp[intOf];omega⟩
   rw[ho]at RF
   have hfi:mc s.1.1 t.1.1 a=(n:Int):=by
    unfold mc;rw[Lib.index_hit hno (by omega) ho,if_neg (by omega)];omega
   have HF:=aa hfi;clear hno ho hxl hdd hlen hte qc hfi;go_wp2;go_ret;exact⟨ba HF.out.symm,rfl⟩
  have z1:¬(((a+k:Nat):Int)+(t.size:Int))<=(s.size:Int):=by omega
  have hfi:mc s.1.1 t.1.1 a=-1:=by
   unfold mc;rw[Lib.index_past hte hno (by simp;omega),if_pos (by omega)]
  have HF:=aa hfi;have z2:(s.size:Int)<((a+k:Nat):Int)+(t.size:Int):=by omega
  clear hno hfi hte hlt;generalize a+k=n at *;go_wp2;go_ret;exact⟨ba HF.out.symm,rfl⟩
theorem Pf(s:ByteArray)(h:1<=s.size):mc s.1.1 [62] 1=if(St.df s.1.1).length+1<s.1.1.length then(((St.df s.1.1).length+1:Nat):Int)else -1:=by
 have bS:=St.wu (s.1.1.drop 1);rw[<-Lib.index_one,show(s.1.1.drop 1).takeWhile (λc=>decide (c.toNat≠62))=St.df s.1.1 from rfl,List.length_drop]at bS;unfold mc;rw[bS];have hl:=St.aB s;generalize(St.df s.1.1).length=n;generalize s.1.1.length=m at *
 by_cases h2:n+1<m
 ·rw[if_pos h2,if_pos (show n<m-1 by omega),if_neg (by omega)];omega
 rw[if_neg h2,if_neg (show ¬n<m-1 by omega),if_pos (by omega)]
theorem EJ(s:ByteArray)(w:YA)(hs:s.size<=4611686018427387904)(h0:1<=s.size) :
  Calls Tryz.prog 137 #[Yq s] w λe w'=>e=Yx (cn (St.gh s.1.1))/\ac w w':=by
 have hlen:=St.aB s;have eU:=λW=>uI s ⟨#[62]⟩ 1 W (by decide) (by decide) h0 hs
 rw[show(⟨#[62]⟩:ByteArray).1.1=[62]from rfl,Pf s h0]at eU;have hpre:St.df s.1.1=(s.1.1.drop 1).take (St.df s.1.1).length:=List.prefix_iff_eq_take.1 (List.takeWhile_prefix _)
 by_cases hlt:(St.df s.1.1).length+1<s.1.1.length
 rotate_left 1
 ·have hR:=aa (St.BW hlt);rw[if_neg hlt]at eU;have iF:=aa eU;clear eU hlt hpre hlen;go_enter Tryz.func137,Tryz.ntmps137;go_wp2_with fail;refine(iF.out _).mono ?_;rintro e w' ⟨rfl,rfl⟩;go_wp2;refine bodyPost_ret (v:=cn none) (by simp[results,Tryz.results137,go_sem,cn]) rfl ⟨?_,uZ⟩;rw[hR.out]
 have hT:=St.BX hlt;rw[if_pos hlt]at eU;rw[hlen]at hlt;obtain⟨m,hm⟩:∃m,(St.df s.1.1).length=m:=⟨_,rfl⟩;obtain⟨x,hX⟩:∃x,s.extract 1 (m+1)=x:=⟨_,rfl⟩;have hxl:x.1.1=St.df s.1.1:=by rw[hpre,hm,<-hX,Lib.extract_data];simp
 rw[hm]at hT eU hlt;rw[<-hxl]at hT;have hxs:x.size=m:=by rw[<-St.aB,hxl,hm]
 have WG:x.size<=m:=by omega
 have vx:m<=x.size:=by omega
 clear hpre hlen hxl hm hxs;have z1:(1:Int)<=(m:Int)+1:=by omega
 have z2:(m:Int)+1<=(s.size:Int):=by omega
 have z3:¬(m:Int)+1<0:=by omega
 have qc:(((m+1:Nat):Int))=(m:Int)+1:=by omega
 rw[qc]at eU;have iF:=aa eU;have hp:=λW=>gG x ⟨#[47]⟩ W (by omega) (by show 1<=_;omega)
 have hpe:preB ⟨#[47]⟩ x=decide (x.1.1.head?=some 47):=St.OR _;rw[hpe]at hp;clear eU hpe qc
 by_cases b1:x.1.1.head?=some 47
 ·have hx1:1<=x.size:=by
   rw[<-St.aB];cases hq:x.1.1 with
   | nil=>rw[hq]at b1;cases b1
   | cons c r=>simp
  obtain⟨y,hY⟩:∃y,x.extract 1 x.size=y:=⟨_,rfl⟩;have iW:y.1.1=x.1.1.drop 1:=by rw[<-hY,Lib.extract_data,List.take_of_length_le (by simp)]
  have hys:y.size<=x.size:=by rw[<-hY];simp
  have hI:St.eX x.1.1=if St.aF y.1.1 then some (3,y.1.1)else none:=by
   unfold St.eX;rw[if_pos b1,iW]
  rw[hI]at hT;have bh:=λW=>nx y W (by omega)
  rw[decide_eq_true b1]at hp;have HP:=aa hp;have y1:(1:Int)<=(x.size:Int):=by omega
  clear hp hI b1 iW;cases hb:St.aF y.1.1
  all_goals
   rw[hb]at hT bh;have HT:=aa hT;have bz:=aa bh;clear hT bh hb;go_enter Tryz.func137,Tryz.ntmps137;go_wp2_with fail;refine(iF.out _).mono ?_;rintro e w' ⟨rfl,rfl⟩;go_wp2_with fail;refine(HP.out _).mono ?_;rintro e w' ⟨rfl,rfl⟩;go_wp2_with fail;refine(bz.out _).mono ?_;rintro e w' ⟨rfl,rfl⟩;go_wp2
  ·refine bodyPost_ret (v:=cn none) (by simp[results,Tryz.results137,go_sem,cn]) rfl ⟨?_,uZ⟩;rw[HT.out];rfl
  refine bodyPost_ret (v:=Yu #[.agg #[Yp Yv 3,Yq y,Yp Yv 0],Yp Yv ((m:Int)+1+1)]) (by simp[results,Tryz.results137,go_sem]) rfl ⟨?_,uZ⟩;rw[HT.out];simp only[if_true,Option.map_some,cn,iX,bo];rw[show(((m+2:Nat):Int))=(m:Int)+1+1 by omega]
 rw[decide_eq_false b1]at hp;have HP:=aa hp
 by_cases h1:1<=x.size
 rotate_left 1
 ·have hx0:x.1.1=[]:=List.eq_nil_of_length_eq_zero (by rw[St.aB];omega);have hI:St.eX x.1.1=none:=by rw[hx0];decide
  rw[hI]at hT;have HT:=aa hT;have bh:=λW=>mA x W (by omega)
  rw[show St.aM x.1.1=false by rw[hx0];decide]at bh;have bz:=aa bh;have y1:¬(0:Int)<(x.size:Int):=by omega
  have y2:¬(0:Int)<(m:Int):=by omega
  clear hp hT hI b1 hx0 bh;go_enter Tryz.func137,Tryz.ntmps137;go_wp2_with fail;refine(iF.out _).mono ?_;rintro e w' ⟨rfl,rfl⟩;go_wp2_with fail;refine(HP.out _).mono ?_;rintro e w' ⟨rfl,rfl⟩;go_wp2_with fail;refine(bz.out _).mono ?_;rintro e w' ⟨rfl,rfl⟩;go_wp2;refine bodyPost_ret (v:=cn none) (by simp[results,Tryz.results137,go_sem,cn]) rfl ⟨?_,uZ⟩;rw[HT.out];rfl
 obtain⟨j,hj⟩:∃j,x.size=j+1:=⟨x.size-1,by omega⟩;have hjl:j<x.size:=by omega
 have hlast:x.1.1.getLast?=some x[j]:=by
  rw[List.getLast?_eq_getElem?,St.aB,show x.size-1=j by omega];exact List.getElem?_eq_getElem (by rw[St.aB];exact hjl)
 have y1:(0:Int)<(x.size:Int):=by omega
 have y3:(x.size:Int)-1=(j:Int):=by omega
 have y4:(j:Int)<(x.size:Int):=by omega
 have y5:(0:Int)<=(j:Int):=by omega
 have y6:(j:Int)<=(x.size:Int):=by omega
 have XR:j<=x.size-1:=by omega
 have hjb:x.size-1<=j:=by omega
 clear hj
 by_cases b2:x[j].toNat=47
 ·have e2:((x[j].toNat:Int)==47)=true:=by simp;omega
  obtain⟨y,hY⟩:∃y,x.extract 0 j=y:=⟨_,rfl⟩;have iW:y.1.1=x.1.1.dropLast:=by rw[<-hY,Lib.extract_data,List.dropLast_eq_take,St.aB,show x.size-1=j by omega];simp
  have hys:y.size<=x.size:=by rw[<-hY];simp;omega
  have Du:x.1.1.getLast?=some 47:=by rw[hlast,show x[j]=47 from UInt8.toNat_inj.1 b2]
  have hI:St.eX x.1.1=if St.aM y.1.1 then some (4,y.1.1)else none:=by
   unfold St.eX;rw[if_neg b1,if_pos Du,iW]
  rw[hI]at hT;have bh:=λW=>mA y W (by omega)
  clear hp hI b1 b2 iW hlast Du;cases hb:St.aM y.1.1
  all_goals
   rw[hb]at hT bh;have HT:=aa hT;have bz:=aa bh;clear hT bh hb;go_enter Tryz.func137,Tryz.ntmps137;go_wp2_with fail;refine(iF.out _).mono ?_;rintro e w' ⟨rfl,rfl⟩;go_wp2_with fail;refine(HP.out _).mono ?_;rintro e w' ⟨rfl,rfl⟩;go_wp2_with fail;refine(bz.out _).mono ?_;rintro e w' ⟨rfl,rfl⟩;go_wp2
  ·refine bodyPost_ret (v:=cn none) (by simp[results,Tryz.results137,go_sem,cn]) rfl ⟨?_,uZ⟩;rw[HT.out];rfl
  refine bodyPost_ret (v:=Yu #[.agg #[Yp Yv 4,Yq y,Yp Yv 0],Yp Yv ((m:Int)+1+1)]) (by simp[results,Tryz.results137,go_sem]) rfl ⟨?_,uZ⟩;rw[HT.out];simp only[if_true,Option.map_some,cn,iX,bo];rw[show(((m+2:Nat):Int))=(m:Int)+1+1 by omega]
 have e2:((x[j].toNat:Int)==47)=false:=by simp;omega
 have Du:x.1.1.getLast?≠some 47:=by rw[hlast];intro e;apply b2;rw[Option.some.inj e];rfl
 have hI:St.eX x.1.1=if St.aM x.1.1 then some (2,x.1.1)else none:=by
  unfold St.eX;rw[if_neg b1,if_neg Du]
 rw[hI]at hT;have bh:=λW=>mA x W (by omega)
 clear hp hI b1 b2 hlast Du;cases hb:St.aM x.1.1
 all_goals
  rw[hb]at hT bh;have HT:=aa hT;have bz:=aa bh;clear hT bh hb;go_enter Tryz.func137,Tryz.ntmps137;go_wp2_with fail;refine(iF.out _).mono ?_;rintro e w' ⟨rfl,rfl⟩;go_wp2_with fail;refine(HP.out _).mono ?_;rintro e w' ⟨rfl,rfl⟩;go_wp2_with fail;refine(bz.out _).mono ?_;rintro e w' ⟨rfl,rfl⟩;go_wp2
 ·refine bodyPost_ret (v:=cn none) (by simp[results,Tryz.results137,go_sem,cn]) rfl ⟨?_,uZ⟩;rw[HT.out];rfl
 refine bodyPost_ret (v:=Yu #[.agg #[Yp Yv 2,Yq x,Yp Yv 0],Yp Yv ((m:Int)+1+1)]) (by simp[results,Tryz.results137,go_sem]) rfl ⟨?_,uZ⟩;rw[HT.out];simp only[if_true,Option.map_some,cn,iX,bo];rw[show(((m+2:Nat):Int))=(m:Int)+1+1 by omega]
end
section
theorem yC(W:YA):(Instr.index 224 (.agg #[Yq ⟨#[38,108,116,59,60]⟩,Yq ⟨#[38,103,116,59,62]⟩,Yq ⟨#[38,97,109,112,59,38]⟩,Yq ⟨#[38,108,98,59,123]⟩,Yq ⟨#[38,114,98,59,125]⟩]) (Yp Yv 0)).run Tryz.prog W=.ok (Yq ⟨#[38,108,116,59,60]⟩) W /\
  (Instr.index 224 (.agg #[Yq ⟨#[38,108,116,59,60]⟩,Yq ⟨#[38,103,116,59,62]⟩,Yq ⟨#[38,97,109,112,59,38]⟩,Yq ⟨#[38,108,98,59,123]⟩,Yq ⟨#[38,114,98,59,125]⟩]) (Yp Yv 1)).run Tryz.prog W=.ok (Yq ⟨#[38,103,116,59,62]⟩) W /\
  (Instr.index 224 (.agg #[Yq ⟨#[38,108,116,59,60]⟩,Yq ⟨#[38,103,116,59,62]⟩,Yq ⟨#[38,97,109,112,59,38]⟩,Yq ⟨#[38,108,98,59,123]⟩,Yq ⟨#[38,114,98,59,125]⟩]) (Yp Yv 2)).run Tryz.prog W=.ok (Yq ⟨#[38,97,109,112,59,38]⟩) W /\
  (Instr.index 224 (.agg #[Yq ⟨#[38,108,116,59,60]⟩,Yq ⟨#[38,103,116,59,62]⟩,Yq ⟨#[38,97,109,112,59,38]⟩,Yq ⟨#[38,108,98,59,123]⟩,Yq ⟨#[38,114,98,59,125]⟩]) (Yp Yv 3)).run Tryz.prog W=.ok (Yq ⟨#[38,108,98,59,123]⟩) W /\
  (Instr.index 224 (.agg #[Yq ⟨#[38,108,116,59,60]⟩,Yq ⟨#[38,103,116,59,62]⟩,Yq ⟨#[38,97,109,112,59,38]⟩,Yq ⟨#[38,108,98,59,123]⟩,Yq ⟨#[38,114,98,59,125]⟩]) (Yp Yv 4)).run Tryz.prog W=.ok (Yq ⟨#[38,114,98,59,125]⟩) W:=
 ⟨by kernel_rfl,by kernel_rfl,by kernel_rfl,by kernel_rfl,by kernel_rfl⟩
theorem Pe:(⟨#[38,108,116,59,60]⟩:ByteArray).extract 0 4=⟨#[38,108,116,59]⟩/\(⟨#[38,103,116,59,62]⟩:ByteArray).extract 0 4=⟨#[38,103,116,59]⟩/\(⟨#[38,97,109,112,59,38]⟩:ByteArray).extract 0 5=⟨#[38,97,109,112,59]⟩/\(⟨#[38,108,98,59,123]⟩:ByteArray).extract 0 4=⟨#[38,108,98,59]⟩/\(⟨#[38,114,98,59,125]⟩:ByteArray).extract 0 4=⟨#[38,114,98,59]⟩:=⟨by decide,by decide,by decide,by decide,by decide⟩
theorem vU(w:YA)(b:Nat){a0 a1 a2:Value}{T:TypeId}(h:w.1[b]?=some (Yw #[a0,a1,a2] T))(v0 v1 v2:Value) :
  (((w.setCell ⟨b,0,none⟩ v0).setCell ⟨b,1,none⟩ v1).setCell ⟨b,2,none⟩ v2).1[b]?=some (Yw #[v0,v1,v2] T):=
 heap_setCell_same _ _ 2 _ _ v2 (heap_setCell_same _ _ 1 _ _ v1 (heap_setCell_same _ _ 0 _ _ v0 h))
theorem vT(W:YA)(b:Nat){v0 v1 v2:Value}{T:TypeId}(h:W.1[b]?=some (Yw #[v0,v1,v2] T)):W.cell? ⟨b,0,none⟩=some v0/\W.cell? ⟨b,1,none⟩=some v1/\W.cell? ⟨b,2,none⟩=some v2/\b<W.1.size:=
 ⟨aj h 0,aj h 1,aj h 2,ae h⟩
theorem Fw(s:ByteArray)(w:YA)(hs:s.size<=4611686018427387904)(h0:1<=s.size) :
  Calls Tryz.prog 144 #[Yq s] w λe w'=>e=Yx (cn (St.b7 s.1.1))/\ac w w':=by
 have hcr:s.1.1=s[0] :: s.1.1.drop 1:=St.fF s (by omega);have z0:0<s.size:=by omega
 by_cases im:s[0].toNat=60
 ·have hsl:=St.oD (r:=s.1.1.drop 1) im;rw[<-hcr]at hsl;have QX:((s[0].toNat:Int)==60)=true:=by simp;omega
  have dT:=aa (λW=>EJ s W hs h0);unfold St.uv at hsl;clear hcr im;cases hq:St.gh s.1.1 with
  | none=>
   rw[hq]at hsl dT;have bB:=aa hsl;have Hc:Hid (∀W,Calls Tryz.prog 137 #[Yq s] W λe w'=>e=Yx (Yu #[.agg #[Yp Yv 0,Yq ⟨#[]⟩,Yp Yv 0],Yp Yv 0])/\ac W w'):=dT;clear hsl hq dT;go_enter Tryz.func144,Tryz.ntmps144;go_wp2_with fail;refine(Hc.out _).mono ?_;rintro e w2 ⟨rfl,hu⟩;have hbr:=(hu.below.block w.1.size (by simp)).trans (bG w (Yw #[Yp Yv 0,Yq ⟨#[]⟩,Yp Yv 0] 36) w.1.size rfl);have r0:w2.cell? ⟨w.1.size,0,none⟩=some (Yp Yv 0):=aj hbr 0;have r1:w2.cell? ⟨w.1.size,1,none⟩=some (Yq ⟨#[]⟩):=aj hbr 1;have r2:w2.cell? ⟨w.1.size,2,none⟩=some (Yp Yv 0):=aj hbr 2;have p0:w2.frozen? ⟨w.1.size,0,none⟩=false:=bu hbr 0;have p1:w2.frozen? ⟨w.1.size,1,none⟩=false:=bu hbr 1;have p2:w2.frozen? ⟨w.1.size,2,none⟩=false:=bu hbr 2;haveI:af w.1.size w2:=af.of (ae hbr);have HU:=aa (((ac.refl w).alloc _).trans hu);have HB:=aa (vU w2 w.1.size hbr (Yp Yv 0) (Yq ⟨#[]⟩) (Yp Yv 0));clear hu hbr;go_wp2;have Kq:=((HU.out.setCell (p:=⟨w.1.size,0,none⟩) (Nat.le_refl _) (Yp Yv 0)).setCell (p:=⟨w.1.size,1,none⟩) (Nat.le_refl _) (Yq ⟨#[]⟩)).setCell (p:=⟨w.1.size,2,none⟩) (Nat.le_refl _) (Yp Yv 0);obtain⟨f0,f1,f2,f3⟩:=vT _ _ HB.out;generalize((w2.setCell ⟨w.1.size,0,none⟩ (Yp Yv 0)).setCell ⟨w.1.size,1,none⟩ (Yq ⟨#[]⟩)).setCell ⟨w.1.size,2,none⟩ (Yp Yv 0)=W5 at *;haveI:af w.1.size W5:=af.of f3;refine bodyPost_ret (v:=cn none) (by simp[results,Tryz.results144,go_sem,cn,f0,f1,f2]) rfl ⟨?_,Kq.trans uZ⟩;rw[bB.out]
  | some q=>
   obtain⟨k,t,n⟩:=q;rw[hq]at hsl dT;simp only at hsl;have hnn:2<=n:=(St.kS hq).2.1
   have htl:t.length<=4611686018427387904:=by
    have:=St.kS hq
    rw[St.aB]at this;omega
   obtain⟨tb,fT⟩:∃tb:ByteArray,(⟨t.toArray⟩:ByteArray)=tb:=⟨_,rfl⟩;obtain⟨nb,hnb⟩:∃nb:ByteArray,(⟨(St.nameOf t).toArray⟩:ByteArray)=nb:=⟨_,rfl⟩;have mX:tb.1.1=t:=by rw[<-fT]
   have bz:=aa (λW=>kQ t W htl);have Hc:Hid (∀W,Calls Tryz.prog 137 #[Yq s] W λe w'=>e=Yx (Yu #[.agg #[Yp Yv k,Yq ⟨t.toArray⟩,Yp Yv 0],Yp Yv n])/\ac W w'):=dT;have hib:=λW=>tN ⟨(St.nameOf t).toArray⟩ W
   have zn:((n:Int)==0)=false:=by simp;omega
   cases hb:St.bE (St.nameOf t)
   all_goals
    rw[hb]at hsl;rw[show St.bE (⟨(St.nameOf t).toArray⟩:ByteArray).1.1=_ from hb]at hib;have vp:=aa hib;have bB:=aa hsl;rw[fT]at Hc;rw[fT,hnb]at bz;rw[hnb]at vp;clear hsl hq hb hnb fT hib dT;go_enter Tryz.func144,Tryz.ntmps144;go_wp2_with fail;refine(Hc.out _).mono ?_;rintro e w2 ⟨rfl,hu⟩;have HU:=aa hu;clear hu;go_wp2_with fail;refine(bz.out _).mono ?_;rintro e w3 ⟨rfl,hu3⟩;have dj:=(hu3.below.block w2.1.size (by simp)).trans (bG w2 (Yw #[Yp Yv k,Yq tb,Yp Yv 0] 36) w2.1.size rfl);have x0:w3.cell? ⟨w2.1.size,0,none⟩=some (Yp Yv k):=aj dj 0;have x1:w3.cell? ⟨w2.1.size,1,none⟩=some (Yq tb):=aj dj 1;have x2:w3.cell? ⟨w2.1.size,2,none⟩=some (Yp Yv 0):=aj dj 2;have hu0:ac (w.alloc (Yw #[Yp Yv 0,Yq ⟨#[]⟩,Yp Yv 0] 36)) w3:=HU.out.trans (ac.trans (uZ) hu3);have hbr:=(hu0.below.block w.1.size (by simp)).trans (bG w (Yw #[Yp Yv 0,Yq ⟨#[]⟩,Yp Yv 0] 36) w.1.size rfl);have r0:w3.cell? ⟨w.1.size,0,none⟩=some (Yp Yv 0):=aj hbr 0;have r1:w3.cell? ⟨w.1.size,1,none⟩=some (Yq ⟨#[]⟩):=aj hbr 1;have r2:w3.cell? ⟨w.1.size,2,none⟩=some (Yp Yv 0):=aj hbr 2;have p0:w3.frozen? ⟨w.1.size,0,none⟩=false:=bu hbr 0;have p1:w3.frozen? ⟨w.1.size,1,none⟩=false:=bu hbr 1;have p2:w3.frozen? ⟨w.1.size,2,none⟩=false:=bu hbr 2;haveI:af w2.1.size w3:=af.of (ae dj);haveI:af w.1.size w3:=af.of (ae hbr);have bm:=aa (((ac.refl w).alloc _).trans hu0);have Tu:=aa hbr;clear hu3 dj hbr hu0 HU;go_wp2_with fail;refine(vp.out _).mono ?_;rintro e w4 ⟨rfl,rfl⟩;go_wp2
   ·have Kq:=((bm.out.setCell (p:=⟨w.1.size,0,none⟩) (Nat.le_refl _) (Yp Yv k)).setCell (p:=⟨w.1.size,1,none⟩) (Nat.le_refl _) (Yq tb)).setCell (p:=⟨w.1.size,2,none⟩) (Nat.le_refl _) (Yp Yv 0);obtain⟨f0,f1,f2,f3⟩:=vT _ _ (vU w3 w.1.size Tu.out (Yp Yv k) (Yq tb) (Yp Yv 0));generalize((w3.setCell ⟨w.1.size,0,none⟩ (Yp Yv k)).setCell ⟨w.1.size,1,none⟩ (Yq tb)).setCell ⟨w.1.size,2,none⟩ (Yp Yv 0)=W5 at *;haveI:af w.1.size W5:=af.of f3;refine bodyPost_ret (v:=Yu #[.agg #[Yp Yv k,Yq tb,Yp Yv 0],Yp Yv n]) (by simp[results,Tryz.results144,go_sem,f0,f1,f2]) rfl ⟨?_,Kq.trans uZ⟩;rw[bB.out];simp only[Bool.false_eq_true,if_false,cn,iX,<-mX,bo]
   have Kq:=((bm.out.setCell (p:=⟨w.1.size,0,none⟩) (Nat.le_refl _) (Yp Yv 0)).setCell (p:=⟨w.1.size,1,none⟩) (Nat.le_refl _) (Yq ⟨#[]⟩)).setCell (p:=⟨w.1.size,2,none⟩) (Nat.le_refl _) (Yp Yv 0);obtain⟨f0,f1,f2,f3⟩:=vT _ _ (vU w3 w.1.size Tu.out (Yp Yv 0) (Yq ⟨#[]⟩) (Yp Yv 0));generalize((w3.setCell ⟨w.1.size,0,none⟩ (Yp Yv 0)).setCell ⟨w.1.size,1,none⟩ (Yq ⟨#[]⟩)).setCell ⟨w.1.size,2,none⟩ (Yp Yv 0)=W5 at *;haveI:af w.1.size W5:=af.of f3;refine bodyPost_ret (v:=cn none) (by simp[results,Tryz.results144,go_sem,cn,f0,f1,f2]) rfl ⟨?_,Kq.trans uZ⟩;rw[bB.out];rfl
 have QX:((s[0].toNat:Int)==60)=false:=by simp;omega
 by_cases ra:s[0].toNat=38
 ·have hsl:=St.iZ (r:=s.1.1.drop 1) ra;rw[<-hcr]at hsl;have e38:((s[0].toNat:Int)==38)=true:=by simp;omega
  have h1:=λW=>gG s ⟨#[38,108,116,59]⟩ W (by omega) (by show 4<=_;omega)
  have h2:=λW=>gG s ⟨#[38,103,116,59]⟩ W (by omega) (by show 4<=_;omega)
  have h3:=λW=>gG s ⟨#[38,97,109,112,59]⟩ W (by omega) (by show 5<=_;omega)
  have h4:=λW=>gG s ⟨#[38,108,98,59]⟩ W (by omega) (by show 4<=_;omega)
  have h5:=λW=>gG s ⟨#[38,114,98,59]⟩ W (by omega) (by show 4<=_;omega)
  have hv:St.sG s.1.1=if preB ⟨#[38,108,116,59]⟩ s then some (1,[60],4)else if preB ⟨#[38,103,116,59]⟩ s then some (1,[62],4)else if preB ⟨#[38,97,109,112,59]⟩ s then some (1,[38],5)else if preB ⟨#[38,108,98,59]⟩ s then some (1,[123],4)else if preB ⟨#[38,114,98,59]⟩ s then some (1,[125],4)else none:=rfl
  rw[hv]at hsl;have i0:=λW=>(yC W).1
  have i1:=λW=>(yC W).2.1
  have i2:=λW=>(yC W).2.2.1
  have i3:=λW=>(yC W).2.2.2.1
  have i4:=λW=>(yC W).2.2.2.2
  obtain⟨x1,x2,x3,x4,x5⟩:=Pe;generalize preB ⟨#[38,108,116,59]⟩ s=b1 at h1 hsl;generalize preB ⟨#[38,103,116,59]⟩ s=b2 at h2 hsl;generalize preB ⟨#[38,97,109,112,59]⟩ s=b3 at h3 hsl;generalize preB ⟨#[38,108,98,59]⟩ s=b4 at h4 hsl;generalize preB ⟨#[38,114,98,59]⟩ s=b5 at h5 hsl;have bB:=aa hsl;have H1:=aa h1;have H2:=aa h2;have H3:=aa h3;have H4:=aa h4;have H5:=aa h5;clear hv h1 h2 h3 h4 h5 hsl hcr im ra
  cases b1;rotate_left 1
  ·go_enter Tryz.func144,Tryz.ntmps144;go_wp2_with fail;refine wp_loop_rounds 6 ?_;rw[rounds_succ];go_wp2_with fail;refine(H1.out _).mono ?_;rintro e w' ⟨rfl,rfl⟩;go_wp2_with fail;refine(je 60 60 rfl _).mono ?_;rintro e w2 ⟨rfl,X,rfl⟩;go_wp2;refine bodyPost_ret (v:=cn (some (1,[60],4))) (by simp[results,Tryz.results144,go_sem,cn,iX]) rfl ⟨?_,uZ⟩;rw[bB.out];rfl
  cases b2;rotate_left 1
  ·go_enter Tryz.func144,Tryz.ntmps144;go_wp2_with fail;refine wp_loop_rounds 6 ?_;rw[rounds_succ];go_wp2_with fail;refine(H1.out _).mono ?_;rintro e w' ⟨rfl,rfl⟩;go_wp2_with fail;rw[rounds_succ];go_wp2_with fail;refine(H2.out _).mono ?_;rintro e w' ⟨rfl,rfl⟩;go_wp2_with fail;refine(je 62 62 rfl _).mono ?_;rintro e w2 ⟨rfl,X,rfl⟩;go_wp2;refine bodyPost_ret (v:=cn (some (1,[62],4))) (by simp[results,Tryz.results144,go_sem,cn,iX]) rfl ⟨?_,uZ⟩;rw[bB.out];rfl
  cases b3;rotate_left 1
  ·go_enter Tryz.func144,Tryz.ntmps144;go_wp2_with fail;refine wp_loop_rounds 6 ?_;rw[rounds_succ];go_wp2_with fail;refine(H1.out _).mono ?_;rintro e w' ⟨rfl,rfl⟩;go_wp2_with fail;rw[rounds_succ];go_wp2_with fail;refine(H2.out _).mono ?_;rintro e w' ⟨rfl,rfl⟩;go_wp2_with fail;rw[rounds_succ];go_wp2_with fail;refine(H3.out _).mono ?_;rintro e w' ⟨rfl,rfl⟩;go_wp2_with fail;refine(je 38 38 rfl _).mono ?_;rintro e w2 ⟨rfl,X,rfl⟩;go_wp2;refine bodyPost_ret (v:=cn (some (1,[38],5))) (by simp[results,Tryz.results144,go_sem,cn,iX]) rfl ⟨?_,uZ⟩;rw[bB.out];rfl
  cases b4;rotate_left 1
  ·go_enter Tryz.func144,Tryz.ntmps144;go_wp2_with fail;refine wp_loop_rounds 6 ?_;rw[rounds_succ];go_wp2_with fail;refine(H1.out _).mono ?_;rintro e w' ⟨rfl,rfl⟩;go_wp2_with fail;rw[rounds_succ];go_wp2_with fail;refine(H2.out _).mono ?_;rintro e w' ⟨rfl,rfl⟩;go_wp2_with fail;rw[rounds_succ];go_wp2_with fail;refine(H3.out _).mono ?_;rintro e w' ⟨rfl,rfl⟩;go_wp2_with fail;rw[rounds_succ];go_wp2_with fail;refine(H4.out _).mono ?_;rintro e w' ⟨rfl,rfl⟩;go_wp2_with fail;refine(je 123 123 rfl _).mono ?_;rintro e w2 ⟨rfl,X,rfl⟩;go_wp2;refine bodyPost_ret (v:=cn (some (1,[123],4))) (by simp[results,Tryz.results144,go_sem,cn,iX]) rfl ⟨?_,uZ⟩;rw[bB.out];rfl
  cases b5;rotate_left 1
  ·go_enter Tryz.func144,Tryz.ntmps144;go_wp2_with fail;refine wp_loop_rounds 6 ?_;rw[rounds_succ];go_wp2_with fail;refine(H1.out _).mono ?_;rintro e w' ⟨rfl,rfl⟩;go_wp2_with fail;rw[rounds_succ];go_wp2_with fail;refine(H2.out _).mono ?_;rintro e w' ⟨rfl,rfl⟩;go_wp2_with fail;rw[rounds_succ];go_wp2_with fail;refine(H3.out _).mono ?_;rintro e w' ⟨rfl,rfl⟩;go_wp2_with fail;rw[rounds_succ];go_wp2_with fail;refine(H4.out _).mono ?_;rintro e w' ⟨rfl,rfl⟩;go_wp2_with fail;rw[rounds_succ];go_wp2_with fail;refine(H5.out _).mono ?_;rintro e w' ⟨rfl,rfl⟩;go_wp2_with fail;refine(je 125 125 rfl _).mono ?_;rintro e w2 ⟨rfl,X,rfl⟩;go_wp2;refine bodyPost_ret (v:=cn (some (1,[125],4))) (by simp[results,Tryz.results144,go_sem,cn,iX]) rfl ⟨?_,uZ⟩;rw[bB.out];rfl
  go_enter Tryz.func144,Tryz.ntmps144;go_wp2_with fail;refine wp_loop_rounds 6 ?_;rw[rounds_succ];go_wp2_with fail;refine(H1.out _).mono ?_;rintro e w' ⟨rfl,rfl⟩;go_wp2_with fail;rw[rounds_succ];go_wp2_with fail;refine(H2.out _).mono ?_;rintro e w' ⟨rfl,rfl⟩;go_wp2_with fail;rw[rounds_succ];go_wp2_with fail;refine(H3.out _).mono ?_;rintro e w' ⟨rfl,rfl⟩;go_wp2_with fail;rw[rounds_succ];go_wp2_with fail;refine(H4.out _).mono ?_;rintro e w' ⟨rfl,rfl⟩;go_wp2_with fail;rw[rounds_succ];go_wp2_with fail;refine(H5.out _).mono ?_;rintro e w' ⟨rfl,rfl⟩;go_wp2_with fail;rw[rounds_succ];go_wp2;refine bodyPost_ret (v:=cn none) (by simp[results,Tryz.results144,go_sem,cn]) rfl ⟨?_,uZ⟩;rw[bB.out];rfl
 have e38:((s[0].toNat:Int)==38)=false:=by simp;omega
 by_cases dh:s[0].toNat=123
 ·have hsl:=St.lE (r:=s.1.1.drop 1) dh;rw[<-hcr]at hsl;have tU:((s[0].toNat:Int)==123)=true:=by simp;omega
  have bB:=aa hsl;have mv:=λW=>wQ s W hs h0
  obtain⟨k,x,m,hv⟩:=mT ((St.cR s.1.1).map λx=>((5:Int),x.1,x.2));have HV:=aa hv;rw[hv]at mv;have HS:=aa mv;clear hsl hcr mv hv im ra dh;go_enter Tryz.func144,Tryz.ntmps144;go_wp2_with (go_at_call 180;refine(HS.out _).mono ?_;rintro e w' ⟨rfl,X,rfl⟩);refine bodyPost_ret (v:=Yu #[.agg #[Yp Yv k,Yq x,Yp Yv 0],Yp Yv m]) (by simp[results,Tryz.results144,go_sem]) rfl ⟨?_,uZ⟩;rw[bB.out,HV.out]
 have tU:((s[0].toNat:Int)==123)=false:=by simp;omega
 have hsl:=St.kl (r:=s.1.1.drop 1) im ra dh;rw[<-hcr]at hsl;have htx:=aa (λW=>je s[0] (s[0].toNat:Int) rfl W);have bB:=aa hsl;clear hsl hcr im ra dh;go_enter Tryz.func144,Tryz.ntmps144;go_wp2_with (go_at_call 179;refine(htx.out _).mono ?_;rintro e w' ⟨rfl,X,rfl⟩);refine bodyPost_ret (v:=cn (some (1,[s[0]],1))) (by simp[results,Tryz.results144,go_sem,cn,iX]) rfl ⟨?_,uZ⟩;rw[bB.out]
theorem wC:NY St.b7:=by
 intro l k t n h;obtain⟨hk,h1,h2,h3⟩:=St.px h;exact⟨by omega,h1,h2,h3⟩
theorem zP:Ct 1 St.b7:=by
 intro s w hs h0;obtain⟨k,x,m,hv⟩:=mT (St.b7 s.1.1);have hsh:=λW=>Fw s W hs h0
 rw[hv]at hsh;have HS:=aa hsh;have HV:=aa hv;clear hsh hv;go_enter Tryz.func104,Tryz.ntmps104;go_wp2_with (go_at_call 144;refine(HS.out _).mono ?_;rintro e w' ⟨rfl,X,rfl⟩);refine bodyPost_ret (v:=Yu #[.agg #[Yp Yv k,Yq x,Yp Yv 0],Yp Yv m]) (by simp[results,Tryz.results104,go_sem]) rfl ⟨?_,uZ⟩;rw[HV.out]
end
end Go.Proofs.YthoemdibbldndaaGreatDoor
namespace Go.Proofs.YthoemdibbldndaaGreatDoor.Mk
open Go.RowKit
theorem Ew(n:Nat)(w:YA)(hn:n<=4611686018427387904):Calls Tryz.prog 134 #[Yp Yv n] w λe w'=>e=Yx (Yq ⟨(Lib.decDigits n).toArray⟩)/\ac w w':=by
 have h0:¬(n:Int)<0:=by omega
 go_enter Tryz.func134,Tryz.ntmps134;go_wp2_with (go_at_call 176;refine(qG n _ hn).mono ?_;rintro e w' ⟨rfl,X,rfl⟩);go_ret;exact⟨rfl,uZ⟩
def Cj(w:YA)(d:ByteArray)(s6 s7:Value)(wr:YA):Prop:=
 ∃(a r fuel:Nat) (s:St.PS),s6=Yp Yv a/\s7=Yp Yv r/\a<=d.size/\r<=a/\d.size-a<fuel/\s.2<=a/\s.1.length<=2*a/\RV wr w.1.size w.1.size d s/\iJ d=St.jX d.1.1 (St.eA dE Lib.decDigits d.1.1 fuel a r s)/\ac w wr
theorem F8{s t:List UInt8}{a:Nat}{z:Int}(h:Lib.index (s.drop a) t=z)(hz:z<0):mc s t a=-1:=by unfold mc;rw[h,if_pos hz]
theorem F7{s t:List UInt8}{a j:Nat}(h:Lib.index (s.drop a) t=(j:Int)):mc s t a=((a+j:Nat):Int):=by unfold mc;rw[h,if_neg (by omega)];omega
theorem EI(d:ByteArray)(w:YA)(hd:d.size<=65536):Calls Tryz.prog 101 #[Yq d] w (aG (iJ d) w):=by
 have fq:d.size<=4611686018427387904:=by omega
 have hlen:=St.aB d;have rm:RV (w.alloc (Yw #[Yq d,Yr none 0 0,Yp Yv 0] 191)) w.1.size w.1.size d ([],0):=⟨Nat.le_refl _,Yr none 0 0,heap_alloc_new w _,World.ownsRow_nil _ _ _ _⟩
 have ub:iJ d=St.jX d.1.1 (St.eA dE Lib.decDigits d.1.1 (d.size+1) 0 0 ([],0)):=by
  unfold iJ;rw[St.qw (by omega),hlen]
 have jQ:=aa (And.intro rm (And.intro ub ((ac.refl w).alloc (Yw #[Yq d,Yr none 0 0,Yp Yv 0] 191))));have HLEN:=aa hlen;clear rm ub hlen;go_enter Tryz.func101,Tryz.ntmps101;go_wp2_with fail;go_loopw [6,7] (λs6 s7 wr=>Cj w d s6 s7 wr) (λs6 _ _=>d.size+1-(intOf s6).toNat)
 case atStart=>exact⟨0,0,d.size+1,([],0),rfl,rfl,by omega,by omega,by omega,by simp,by simp,jQ.out.1,jQ.out.2.1,jQ.out.2.2⟩
 case round=>
  obtain⟨a,r,fuel,s,rfl,rfl,ha,RP,hfu,hs2,hs1,hP,hS,hu⟩:=hrel;have HP:=aa hP;have HS:=aa hS;have HU:=aa hu;have hsz:=hu.size;clear hP hS hu jQ
  by_cases hlt:a<d.size
  rotate_left 1
  ·have Kr:a=d.size:=by omega
   have HL:=aa (wN wr w.1.size w.1.size d s HP.out (by omega) (by omega) (by omega) hsz);have HR:=aa (HS.out.trans (show St.jX d.1.1 (St.eA dE Lib.decDigits d.1.1 fuel a r s)=(St.cG d.1.1 s,0,0)by rw[St.ja (by rw[HLEN.out];omega)];rfl));have z:¬(a:Int)<d.size:=by omega
   go_wp2_with fail;refine HL.out.mono ?_;rintro e w3 ⟨A,c,rfl,lT,hq1,hq2,hbl⟩;have HE:=aa (And.intro lT (ac.cy (Below.trans HU.out.below hbl)));have mW:=aa hq1;clear lT hbl hq1 HL;go_wp2;go_ret3;unfold aG;rw[HR.out];exact⟨A,c,by simp[St.cG],HE.out.1,by simpa[St.cG]using mW.out,hq2,HE.out.2⟩
  obtain⟨fuel,rfl⟩:∃m,fuel=m+1:=⟨fuel-1,by omega⟩;have eu:=aa (show ¬d.1.1.length<=a by rw[HLEN.out];omega);have z:(a:Int)<d.size:=by omega
  have z2:(a:Int)<=d.size:=by omega
  have av:=St.drop_at d a hlt
  by_cases im:d[a].toNat=60
  rotate_left 1
  ·have f60:((d[a].toNat:Int) != 60)=true:=by simp;omega
   have ho:St.dG (d.1.1.drop a)=some (1,[]):=St.rD (by rw[av];simp;intro e;exact im (by rw[e];rfl));have HST:=aa (HS.out.trans (by rw[St.jw eu.out ho]):iJ d=St.jX d.1.1 (St.eA dE Lib.decDigits d.1.1 fuel (a+1) r s));clear av im ho;go_wp2;exact⟨⟨a+1,r,fuel,s,congrArg (Yp Yv) (by omega),rfl,by omega,by omega,by omega,by omega,by omega,HP.out,HST.out,HU.out⟩,by simp[intOf];omega⟩
  have f60:((d[a].toNat:Int) != 60)=false:=by simp;omega
  obtain⟨x,hx⟩:∃x,d.extract a d.size=x:=⟨_,rfl⟩;have hxl:x.1.1=d.1.1.drop a:=by rw[<-hx,Lib.extract_data,List.take_of_length_le (by simp)]
  have hxs:x.size=d.size-a:=by rw[<-hx];simp
  have mL:(d.1.1.drop a).head?=some 60:=by rw[av];simp;exact UInt8.toNat_inj.1 im
  have hbg:=λW=>gG x ⟨#[60,33,45,45]⟩ W (by omega) (by show 4<=_;omega)
  have cW:=λW=>EJ x W (by omega) (by omega)
  rw[hxl]at cW
  have fZ:St.dG (d.1.1.drop a)=none->iJ d=([],a,2):=λho=>HS.out.trans (by rw[St.oE eu.out ho];rfl)
  cases hp:preB ⟨#[60,33,45,45]⟩ x with
  | true=>
   rw[hp]at hbg;have hp':([60,33,45,45]:List UInt8).isPrefixOf (d.1.1.drop a)=true:=by rw[<-hxl];exact hp
   have h4:a+4<=d.size:=by have:=(List.isPrefixOf_iff_prefix.1 hp').length_le;simp at this;omega
   have hR:=St.ss hp';rw[List.drop_drop]at hR;have eU:=λW=>uI d ⟨#[45,45,62]⟩ (a+4) W (by decide) (by decide) h4 fq
   have Wz:((a+4:Nat):Int)=(a:Int)+4:=by omega
   rw[show(⟨#[45,45,62]⟩:ByteArray).1.1=[45,45,62]from rfl,Wz]at eU;have hge:=Lib.index_ge (d.1.1.drop (a+4)) [45,45,62];have vm:=aa hbg;have hno:=St.xC hp';rw[hno]at cW
   by_cases hz:Lib.index (d.1.1.drop (a+4)) [45,45,62]<0
   ·rw[if_pos hz]at hR;rw[F8 rfl hz]at eU;have iF:=aa eU;have dT:=aa cW;have HR:=aa (fZ hR);have bz:=aa (λW=>kQ [] W (by simp));clear hbg cW fZ eU hR hz hge hno hp' hp mL av im hxl;go_wp2_with fail;refine(vm.out _).mono ?_;rintro e w2 ⟨rfl,rfl⟩;go_wp2_with fail;refine(iF.out _).mono ?_;rintro e w3 ⟨rfl,rfl⟩;go_wp2_with fail;refine(dT.out _).mono ?_;rintro e w4 ⟨rfl,bj⟩;have ea:=aa (HU.out.trans bj);clear bj dT;simp only[cn];go_wp2_with fail;refine(bz.out _).mono ?_;rintro e w5 ⟨rfl,bt⟩;have de:=aa ((ea.out.alloc _).trans bt);clear bt bz;go_wp2;go_ret3;exact aG.err HR.out de.out _ rfl
   obtain⟨j,hj⟩:∃j:Nat,Lib.index (d.1.1.drop (a+4)) [45,45,62]=(j:Int):=⟨_,(Int.toNat_of_nonneg (by omega)).symm⟩;have Gh:=St.index_room hj (by simp);simp at Gh;rw[hj,if_neg (by omega),Int.toNat_natCast]at hR;rw[F7 hj]at eU;have iF:=aa eU;have HST:=aa (HS.out.trans (by rw[St.jw eu.out hR]):iJ d=St.jX d.1.1 (St.eA dE Lib.decDigits d.1.1 fuel (a+(j+7)) r s));clear hbg cW fZ eU hR hz hge hno hp' hp mL av im hxl hj;generalize hk:a+4+j=k at iF;go_wp2_with fail;refine(vm.out _).mono ?_;rintro e w2 ⟨rfl,rfl⟩;go_wp2_with fail;refine(iF.out _).mono ?_;rintro e w3 ⟨rfl,rfl⟩;go_wp2;exact⟨⟨a+(j+7),r,fuel,s,congrArg (Yp Yv) (by omega),rfl,by omega,by omega,by omega,by omega,by omega,HP.out,HST.out,HU.out⟩,by simp[intOf];omega⟩
  | false=>
   rw[hp]at hbg;have hp':([60,33,45,45]:List UInt8).isPrefixOf (d.1.1.drop a)=false:=by rw[<-hxl];exact hp
   have hR:=St.nd mL hp';have vm:=aa hbg;cases hq:St.gh (d.1.1.drop a)with
   | none=>
    rw[hq]at hR cW;have dT:=aa cW;have HR:=aa (fZ hR);have bz:=aa (λW=>kQ [] W (by simp));clear hbg cW fZ hR hp' hp mL av im hxl hq;go_wp2_with fail;refine(vm.out _).mono ?_;rintro e w2 ⟨rfl,rfl⟩;go_wp2_with fail;refine(dT.out _).mono ?_;rintro e w4 ⟨rfl,bj⟩;have ea:=aa (HU.out.trans bj);clear bj dT;simp only[cn];go_wp2_with fail;refine(bz.out _).mono ?_;rintro e w5 ⟨rfl,bt⟩;have de:=aa ((ea.out.alloc _).trans bt);clear bt bz;go_wp2;go_ret3;exact aG.err HR.out de.out _ rfl
   | some q=>
    obtain⟨k,t,n⟩:=q;obtain⟨hk,fD,hnl,htl⟩:=St.kS hq;rw[hq]at hR cW;simp only at hR;obtain⟨tb,fT⟩:∃tb:ByteArray,(⟨t.toArray⟩:ByteArray)=tb:=⟨_,rfl⟩;obtain⟨nb,hnb⟩:∃nb:ByteArray,(⟨(St.nameOf t).toArray⟩:ByteArray)=nb:=⟨_,rfl⟩;have Vq:t.length<=4611686018427387904:=by rw[List.length_drop,HLEN.out]at hnl;omega
    have bh:=λW=>kQ t W Vq
    rw[fT,hnb]at bh;have pi:nb.1.1=St.nameOf t:=by rw[<-hnb]
    have RD:nb.size=(St.nameOf t).length:=by rw[<-hnb];show(St.nameOf t).toArray.size=_;simp
    have hbk:=λW=>tN nb W
    rw[pi]at hbk;have nX:∀W,Calls Tryz.prog 137 #[Yq x] W λe w'=>e=Yx (Yu #[.agg #[Yp Yv k,Yq ⟨t.toArray⟩,Yp Yv 0],Yp Yv n])/\ac W w':=cW
    rw[fT]at nX;have dT:=aa nX;have bz:=aa bh;have n0:((n:Int)==0)=false:=by simp;omega
    have Vg:a+n<=d.size:=by rw[List.length_drop,HLEN.out]at hnl;omega
    cases hb:St.bE (St.nameOf t)with
    | false=>
     rw[hb]at hR hbk;have HST:=aa (HS.out.trans (by rw[St.jw eu.out hR]):iJ d=St.jX d.1.1 (St.eA dE Lib.decDigits d.1.1 fuel (a+n) r s));have jO:=aa hbk;clear hbg cW nX fZ hR hp' hp mL av im hxl hq hbk hb bh fT hnb pi RD hnl;go_wp2_with fail;refine(vm.out _).mono ?_;rintro e w2 ⟨rfl,rfl⟩;go_wp2_with fail;refine(dT.out _).mono ?_;rintro e w4 ⟨rfl,bj⟩;have ea:=aa (HU.out.trans bj);have qV:=aa (HP.out.ai bj);clear bj dT;go_wp2_with fail;refine(bz.out _).mono ?_;rintro e w5 ⟨rfl,bt⟩;have de:=aa ((ea.out.alloc _).trans bt);have tF:=aa (qV.out.ai (((ac.refl _).alloc _).trans bt));clear bt bz;go_wp2_with fail;refine(jO.out _).mono ?_;rintro e w6 ⟨rfl,rfl⟩;go_wp2_with fail;refine(jO.out _).mono ?_;rintro e w6 ⟨rfl,rfl⟩;go_wp2;exact⟨⟨a+n,r,fuel,s,congrArg (Yp Yv) (by omega),rfl,by omega,by omega,by omega,by omega,by omega,tF.out,HST.out,de.out⟩,by simp[intOf];omega⟩
    | true=>
     rw[hb]at hR hbk;have jO:=aa hbk;have Ii:=St.tO hb;obtain⟨b,hbE⟩:∃b,St.nameOf t=b:=⟨_,rfl⟩;rw[hbE]at hR pi RD Ii;clear hbg cW nX hp' hp mL av im hxl hq hbk hb bh fT hnb hnl hbE
     by_cases hk2:k=2
     rotate_left 1
     ·have hkb:(k != 2)=true:=by simpa using hk2
      have HR:=aa (fZ (by rw[hR,if_pos rfl,if_neg hk2]));clear fZ hR hk hk2;go_wp2_with fail;refine(vm.out _).mono ?_;rintro e w2 ⟨rfl,rfl⟩;go_wp2_with fail;refine(dT.out _).mono ?_;rintro e w4 ⟨rfl,bj⟩;have ea:=aa (HU.out.trans bj);clear bj dT;go_wp2_with fail;refine(bz.out _).mono ?_;rintro e w5 ⟨rfl,bt⟩;have dj:=(bt.below.block w4.1.size (by simp)).trans (bG w4 (Yw #[Yp Yv k,Yq tb,Yp Yv 0] 36) w4.1.size rfl);have x0:w5.cell? ⟨w4.1.size,0,none⟩=some (Yp Yv k):=aj dj 0;haveI:af w4.1.size w5:=af.of (ae dj);have de:=aa ((ea.out.alloc _).trans bt);clear bt bz dj;go_wp2_with fail;refine(jO.out _).mono ?_;rintro e w6 ⟨rfl,rfl⟩;go_wp2;go_ret3;exact aG.err HR.out de.out _ rfl
     subst hk2;have ho:St.dG (d.1.1.drop a)=some (n,b):=by rw[hR,if_pos rfl,if_pos rfl]
     have hb0:b≠[]:=Ii.1;have cD:=Ii.2;clear fZ hR hk Ii;obtain⟨x2,hx2⟩:∃x2,d.extract (a+n) d.size=x2:=⟨_,rfl⟩;have ur:x2.1.1=d.1.1.drop (a+n):=by rw[<-hx2,Lib.extract_data,List.take_of_length_le (by simp)]
     have Iz:x2.size=d.size-(a+n):=by rw[<-hx2];simp
     obtain⟨eb,ff⟩:∃eb:ByteArray,(⟨#[60,47]⟩:ByteArray)++nb++⟨#[62]⟩=eb:=⟨_,rfl⟩;have uf:eb.1.1=St.dn b:=by rw[<-ff,<-pi];have:=eh nb.1.1;rwa [bo]at this
     have U9:eb.size=b.length+3:=by have:=congrArg List.length uf;rw[St.aB]at this;rw[this];simp[St.dn]
     have eU:=λW=>uI d eb (a+n) W (by omega) (by omega) Vg fq
     have hq1:((a+n:Nat):Int)=(a:Int)+n:=by omega
     rw[uf,hq1]at eU;have y1:((a:Int)+n)<=d.size:=by omega
     have y2:(0:Int)<=(a:Int)+n:=by omega
     have y3:¬9223372036854775807<2+nb.size:=by omega
     have y4:¬9223372036854775807<2+nb.size+1:=by omega
     have y5:((a:Int)+n).toNat=a+n:=by omega
     have hge:=Lib.index_ge (d.1.1.drop (a+n)) (St.dn b)
     by_cases hz:Lib.index (d.1.1.drop (a+n)) (St.dn b)<0
     ·have hN:=λhe=>St.mZ (dE:=dE) (dig:=Lib.decDigits) (fuel:=fuel) (r:=r) (s:=s) eu.out ho hb0 hz he
      have ua:=λhe=>St.lU (dE:=dE) (dig:=Lib.decDigits) (fuel:=fuel) (r:=r) (s:=s) eu.out ho hb0 hz he
      rw[F8 rfl hz]at eU;rw[<-ur,lm]at hN ua;have eI:=λW=>uD 1 St.b7 zP wC x2 W (by omega)
      rw[show St.dv St.b7 x2.size x2.1.1 0 0 [] [] [] 0=mx x2 from rfl]at eI;have hat:=yl x2;generalize mx x2=R at eI hat hN ua;obtain⟨rf,rc,iK,re⟩:=R;simp only at hN ua hat;have jg:=aa eI;have HN:=aa hN;have gK:=aa ua;have iF:=aa eU;clear eI hN ua eU hge hz ho hb0 ur uf pi;go_wp2_with fail;refine(vm.out _).mono ?_;rintro e w2 ⟨rfl,rfl⟩;go_wp2_with fail;refine(dT.out _).mono ?_;rintro e w4 ⟨rfl,bj⟩;have ea:=aa (HU.out.trans bj);clear bj dT;go_wp2_with fail;refine(bz.out _).mono ?_;rintro e w5 ⟨rfl,bt⟩;have dj:=(bt.below.block w4.1.size (by simp)).trans (bG w4 (Yw #[Yp Yv 2,Yq tb,Yp Yv 0] 36) w4.1.size rfl);have x0:w5.cell? ⟨w4.1.size,0,none⟩=some (Yp Yv 2):=aj dj 0;haveI:af w4.1.size w5:=af.of (ae dj);have de:=aa ((ea.out.alloc _).trans bt);clear bt bz dj;go_wp2_with fail;refine(jO.out _).mono ?_;rintro e w6 ⟨rfl,rfl⟩;go_wp2_with fail;refine(jO.out _).mono ?_;rintro e w6 ⟨rfl,rfl⟩;go_wp2_with fail;refine(iF.out _).mono ?_;rintro e w7 ⟨rfl,rfl⟩;go_wp2_with fail;refine(jg.out _).mono ?_;rintro e w8 ⟨v1,v2,rfl,_,_,pu⟩;have n5:=aa (de.out.trans pu);clear pu jg iF jO vm;simp only
      by_cases hre:re=0
      ·subst hre;have HR:=aa (HS.out.trans (by rw[HN.out rfl,HLEN.out];rfl):iJ d=([],d.size,2));clear HN gK HS;go_wp2;go_ret3;exact aG.err HR.out n5.out _ rfl
      have Gg:(re==0)=false:=by simpa using hre
      have MT:(re != 0)=true:=by simpa using hre
      have HR:=aa (HS.out.trans (by rw[gK.out hre];rfl):iJ d=([],a+n+iK,re));clear HN gK HS;go_wp2;go_ret3;exact aG.err HR.out n5.out _ (by omega)
     obtain⟨j,hj⟩:∃j:Nat,Lib.index (d.1.1.drop (a+n)) (St.dn b)=(j:Int):=⟨_,(Int.toNat_of_nonneg (by omega)).symm⟩;have Gh:=St.index_room hj (by simp[St.dn]);have hel:(St.dn b).length=b.length+3:=by simp[St.dn]
     rw[List.length_drop,HLEN.out,hel]at Gh;have hE:=λhe=>St.oF (dE:=dE) (dig:=Lib.decDigits) (fuel:=fuel) (r:=r) (s:=s) (j:=j) eu.out ho hb0 hj he
     have tc:=λhe=>St.lG (dE:=dE) (dig:=Lib.decDigits) (fuel:=fuel) (r:=r) (s:=s) (j:=j) eu.out ho hb0 hj he
     rw[F7 hj]at eU;obtain⟨x3,hx3⟩:∃x3,d.extract (a+n) (a+n+j)=x3:=⟨_,rfl⟩;have hc3:St.aZ d.1.1 (a+n) (a+n+j)=x3.1.1:=by rw[<-hx3,eW]
     have Vs:x3.size<=d.size:=by rw[<-hx3];simp;omega
     rw[hc3,lm]at hE tc;have eI:=λW=>uD 1 St.b7 zP wC x3 W (by omega)
     rw[show St.dv St.b7 x3.size x3.1.1 0 0 [] [] [] 0=mx x3 from rfl]at eI;have hat:=yl x3;generalize mx x3=R at eI hat hE tc;obtain⟨rf,rc,iK,re⟩:=R;simp only at hE tc hat;obtain⟨u,hu⟩:∃u,a+n+j=u:=⟨_,rfl⟩;have hun:=λW (hp:RV W w.1.size w.1.size d s) (hw:w.1.size<=W.1.size)=>qq W w.1.size w.1.size d ⟨(Lib.decDigits (r+1)).toArray⟩ s (a+n) (a+n+j) hp (by omega) (by omega) (by omega) fq (by omega) hw
     rw[hq1]at hun;rw[hu]at eU hx3 hun tc;have jg:=aa eI;have HE:=aa hE;have gY:=aa tc;have iF:=aa eU;have CR:=aa hun;have y6:¬(u:Int)<0:=by omega
     have y8:(a:Int)+n<=(u:Int):=by omega
     have y9:(u:Int)<=d.size:=by omega
     have hr1:((r+1:Nat):Int)=(r:Int)+1:=by omega
     have HIT:=aa (λW=>Ew (r+1) W (by omega));rw[hr1]at HIT;clear eI hE tc eU hun hge hz hj ho hb0 ur uf pi hel hc3 hq1 hr1;go_wp2_with fail;refine(vm.out _).mono ?_;rintro e w2 ⟨rfl,rfl⟩;go_wp2_with fail;refine(dT.out _).mono ?_;rintro e w4 ⟨rfl,bj⟩;have ea:=aa bj;clear bj dT;go_wp2_with fail;refine(bz.out _).mono ?_;rintro e w5 ⟨rfl,bt⟩;have dj:=(bt.below.block w4.1.size (by simp)).trans (bG w4 (Yw #[Yp Yv 2,Yq tb,Yp Yv 0] 36) w4.1.size rfl);have x0:w5.cell? ⟨w4.1.size,0,none⟩=some (Yp Yv 2):=aj dj 0;haveI:af w4.1.size w5:=af.of (ae dj);have de:=aa ((ea.out.alloc _).trans bt);clear bt bz dj;go_wp2_with fail;refine(jO.out _).mono ?_;rintro e w6 ⟨rfl,rfl⟩;go_wp2_with fail;refine(jO.out _).mono ?_;rintro e w6 ⟨rfl,rfl⟩;go_wp2_with fail;refine(iF.out _).mono ?_;rintro e w7 ⟨rfl,rfl⟩;go_wp2_with fail;refine(jg.out _).mono ?_;rintro e w8 ⟨v1,v2,rfl,_,_,pu⟩;have n5:=aa (de.out.trans pu);clear pu jg iF jO vm de ea;simp only
     by_cases hre:re=0
     ·subst hre;have HST:=aa (HS.out.trans (by rw[gY.out rfl]):iJ d=St.jX d.1.1 (St.eA dE Lib.decDigits d.1.1 fuel (u+(b.length+3)) (r+1) (St.bk d.1.1 s (a+n) u (Lib.decDigits (r+1)))));have gX:=aa (HU.out.trans n5.out);have TJ:=aa (HP.out.ai n5.out);clear HE gY HS HU HP n5;go_wp2_with fail;refine(HIT.out _).mono ?_;rintro e w9 ⟨rfl,tp⟩;have TM:=aa (TJ.out.ai tp);have QF:=aa (gX.out.trans tp);have Vn:=QF.out.size;clear tp HIT TJ gX;go_wp2_with fail;refine(CR.out _ TM.out Vn).mono ?_;rintro e wb ⟨rfl,hpb,hblb,_⟩;have VX:=aa hpb;have V9:=aa (ac.cy (Below.trans QF.out.below hblb));clear hpb hblb CR TM QF;go_wp2;exact⟨⟨u+(b.length+3),r+1,fuel,_,congrArg (Yp Yv) (by omega),congrArg (Yp Yv) (by omega),by omega,by omega,by omega,by first|(simp[St.bk];done)|(simp[St.bk];omega),by first|(simp[St.bk];done)|(simp[St.bk];omega),VX.out,HST.out,V9.out⟩,by simp[intOf];omega⟩
     have Gg:(re==0)=false:=by simpa using hre
     have MT:(re != 0)=true:=by simpa using hre
     have HR:=aa (HS.out.trans (by rw[HE.out hre];rfl):iJ d=([],a+n+iK,re));have gX:=aa (HU.out.trans n5.out);clear HE gY HS HU n5;go_wp2;go_ret3;exact aG.err HR.out gX.out _ (by omega)
theorem mC(d:ByteArray)(w:YA)(fq:d.size<=4611686018427387904):Calls Tryz.prog 60 #[Yp Yv 1,Yq d] w (aG (iJ d) w):=by
 by_cases hbig:65536<d.size
 ·have hR:iJ d=([],0,3):=by unfold iJ St.ix;rw[if_pos (by rw[St.aB];omega)]
  have HR:=aa hR;have hb:(65536:Int)<d.size:=by omega
  clear hR;go_enter Tryz.func60,Tryz.ntmps60;go_wp2;go_ret3;exact aG.err HR.out (ac.refl _) _ rfl
 have hb:¬(65536:Int)<d.size:=by omega
 have HS:=aa (EI d w (by omega));go_enter Tryz.func60,Tryz.ntmps60;go_wp2_with fail;refine HS.out.mono ?_;rintro e w' ⟨A,c,rfl,hp,h1,h2,hu⟩;have HP:=aa hp;clear hp;go_wp2;go_ret3;exact⟨A,c,rfl,HP.out,h1,h2,hu⟩
end Go.Proofs.YthoemdibbldndaaGreatDoor.Mk
