/- The contracts of the reference's find, tag and markup element: what they give is. -/
import Derived.Test.YthoemdibbldndaaGreatDoorRdsA
import Derived.LoopN
import Derived.Test.YthoemdibbldndaaGreatDoorRDecT
import Derived.Test.YthoemdibbldndaaGreatDoorRefUnit
set_option linter.all false
set_option maxHeartbeats 0
set_option maxRecDepth 20000
open Go.Value renaming int->Yh,string->Yi,slice->Yj,tuple->Ym
open Go.IntKind renaming i64->Yn
open Go.Obj renaming cells->Yo
open Go.Ending renaming returned->Yp
open Go renaming World->Ys
namespace Go.Proofs.YthoemdibbldndaaGreatDoor
open Go.RowKit
section
def l4(s t:List UInt8)(a:Nat):Int:=if Lib.index (s.drop a) t<0 then -1 else a+Lib.index (s.drop a) t
def Sq(s t:ByteArray)(a:Nat)(w:Ys)(s7:Value)(wr:Ys):Prop:=∃k:Nat,s7=Yh Yn (a+k:Nat)/\a+k<=s.size+1/\Lib.NoOcc (s.1.1.drop a) t.1.1 k/\w=wr
theorem ub(s t:ByteArray)(a:Nat)(w:Ys)(ht:1<=t.size)(hts:t.size<=1000000)(ha:a<=s.size)(hs:s.size<=4611686018427387904) :
  Calls Tryz.prog 136 #[Yi s,Yi t,Yh Yn a] w λe w'=>e=Yp (Yh Yn (l4 s.1.1 t.1.1 a))/\w=w':=by
 have hte:t.1.1≠[]:=by intro e;have:=St.aC t;rw[e]at this;simp at this;omega
 go_enter Tryz.func136,Tryz.ntmps136;go_wp2;go_loopw [7] (λs7 wr=>Sq s t a w s7 wr) (λs7 _=>s.size+2-(intOf s7).toNat)
 case atStart=>exact⟨0,rfl,by omega,Lib.NoOcc.zero _ _,rfl⟩
 case round=>
  obtain⟨k,rfl,hk,hno,rfl⟩:=hrel
  by_cases hlt:a+k+t.size<=s.size
  ·have z1:(((a+k:Nat):Int)+(t.size:Int))<=(s.size:Int):=by omega
   have hdd:(s.1.1.drop a).drop k=s.1.1.drop (a+k):=by rw[List.drop_drop]
   obtain⟨x,hx⟩:∃x,s.extract (a+k) (a+k+t.size)=x:=⟨_,rfl⟩
   have hxl:x.1.1=(s.1.1.drop (a+k)).take t.1.1.length:=by
    rw[<-hx,Lib.extract_data,St.aC];congr 1;omega
   have Rl:(x.toList==t.toList)=Lib.occAt (s.1.1.drop a) t.1.1 k:=by
    unfold Lib.occAt;rw[hdd,<-St.nf,Lib.toList_data,Lib.toList_data,hxl]
   have y1:((a+k:Nat):Int)<=((a+k:Nat):Int)+(t.size:Int):=by omega
   have hlen:(s.1.1.drop a).length=s.size-a:=by simp
   generalize hn:a+k=n at *;have pV:(n:Int)+(t.size:Int)=((n+t.size:Nat):Int):=by omega
   cases ho:Lib.occAt (s.1.1.drop a) t.1.1 k
   ·rw[ho]at Rl;have iz:=aa (hno.succ ho);clear hno ho hxl hdd hlen hte pV;go_wp2;exact⟨⟨k+1,congrArg (Yh Yn) (by omega),by omega,iz.out,by trivial⟩,by simp[intOf];omega⟩
   rw[ho]at Rl
   have hfi:l4 s.1.1 t.1.1 a=(n:Int):=by
    unfold l4;rw[Lib.index_hit hno (by omega) ho,if_neg (by omega)];omega
   have HF:=aa hfi;clear hno ho hxl hdd hlen hte pV hfi;go_wp2;go_ret;exact⟨ba HF.out.symm,rfl⟩
  have z1:¬(((a+k:Nat):Int)+(t.size:Int))<=(s.size:Int):=by omega
  have hfi:l4 s.1.1 t.1.1 a=-1:=by
   unfold l4;rw[Lib.index_past hte hno (by simp;omega),if_pos (by omega)]
  have HF:=aa hfi;have z2:(s.size:Int)<((a+k:Nat):Int)+(t.size:Int):=by omega
  clear hno hfi hte hlt;generalize a+k=n at *;go_wp2;go_ret;exact⟨ba HF.out.symm,rfl⟩
theorem OH(s:ByteArray)(h:1<=s.size):l4 s.1.1 [62] 1=if(St.di s.1.1).length+1<s.1.1.length then(((St.di s.1.1).length+1:Nat):Int)else -1:=by
 have bP:=St.vD (s.1.1.drop 1);rw[<-Lib.index_one,show(s.1.1.drop 1).takeWhile (λc=>decide (c.toNat≠62))=St.di s.1.1 from rfl,List.length_drop]at bP;unfold l4;rw[bP];have hl:=St.aC s;generalize(St.di s.1.1).length=n;generalize s.1.1.length=m at *
 by_cases h2:n+1<m
 ·rw[if_pos h2,if_pos (show n<m-1 by omega),if_neg (by omega)];omega
 rw[if_neg h2,if_neg (show ¬n<m-1 by omega),if_pos (by omega)]
theorem DR(s:ByteArray)(w:Ys)(hs:s.size<=4611686018427387904)(h0:1<=s.size) :
  Calls Tryz.prog 137 #[Yi s] w λe w'=>e=Yp (ci (St.fW s.1.1))/\ac w w':=by
 have hlen:=St.aC s;have eO:=λW=>ub s ⟨#[62]⟩ 1 W (by decide) (by decide) h0 hs
 rw[show(⟨#[62]⟩:ByteArray).1.1=[62]from rfl,OH s h0]at eO;have hpre:St.di s.1.1=(s.1.1.drop 1).take (St.di s.1.1).length:=List.prefix_iff_eq_take.1 (List.takeWhile_prefix _)
 by_cases hlt:(St.di s.1.1).length+1<s.1.1.length
 rotate_left 1
 ·have hR:=aa (St.Bj hlt);rw[if_neg hlt]at eO;have iw:=aa eO;clear eO hlt hpre hlen;go_enter Tryz.func137,Tryz.ntmps137;go_wp2_with fail;refine(iw.out _).mono ?_;rintro e w' ⟨rfl,rfl⟩;go_wp2;refine bodyPost_ret (v:=ci none) (by simp[results,Tryz.results137,go_sem,ci]) rfl ⟨?_,uZ⟩;rw[hR.out]
 have hT:=St.Bk hlt;rw[if_pos hlt]at eO;rw[hlen]at hlt;obtain⟨m,hm⟩:∃m,(St.di s.1.1).length=m:=⟨_,rfl⟩;obtain⟨x,hX⟩:∃x,s.extract 1 (m+1)=x:=⟨_,rfl⟩;have hxl:x.1.1=St.di s.1.1:=by rw[hpre,hm,<-hX,Lib.extract_data];simp
 rw[hm]at hT eO hlt;rw[<-hxl]at hT;have hxs:x.size=m:=by rw[<-St.aC,hxl,hm]
 have Wv:x.size<=m:=by omega
 have Ax:m<=x.size:=by omega
 clear hpre hlen hxl hm hxs;have z1:(1:Int)<=(m:Int)+1:=by omega
 have z2:(m:Int)+1<=(s.size:Int):=by omega
 have z3:¬(m:Int)+1<0:=by omega
 have pV:(((m+1:Nat):Int))=(m:Int)+1:=by omega
 rw[pV]at eO;have iw:=aa eO;have hp:=λW=>gC x ⟨#[47]⟩ W (by omega) (by show 1<=_;omega)
 have hpe:preB ⟨#[47]⟩ x=decide (x.1.1.head?=some 47):=St.Od _;rw[hpe]at hp;clear eO hpe pV
 by_cases b1:x.1.1.head?=some 47
 ·have hx1:1<=x.size:=by
   rw[<-St.aC];cases hq:x.1.1 with
   | nil=>rw[hq]at b1;cases b1
   | cons c r=>simp
  obtain⟨y,hY⟩:∃y,x.extract 1 x.size=y:=⟨_,rfl⟩;have iR:y.1.1=x.1.1.drop 1:=by rw[<-hY,Lib.extract_data,List.take_of_length_le (by simp)]
  have hys:y.size<=x.size:=by rw[<-hY];simp
  have hI:St.eU x.1.1=if St.aE y.1.1 then some (3,y.1.1)else none:=by
   unfold St.eU;rw[if_pos b1,iR]
  rw[hI]at hT;have be:=λW=>ny y W (by omega)
  rw[decide_eq_true b1]at hp;have HP:=aa hp;have y1:(1:Int)<=(x.size:Int):=by omega
  clear hp hI b1 iR;cases hb:St.aE y.1.1
  all_goals
   rw[hb]at hT be;have HT:=aa hT;have bt:=aa be;clear hT be hb;go_enter Tryz.func137,Tryz.ntmps137;go_wp2_with fail;refine(iw.out _).mono ?_;rintro e w' ⟨rfl,rfl⟩;go_wp2_with fail;refine(HP.out _).mono ?_;rintro e w' ⟨rfl,rfl⟩;go_wp2_with fail;refine(bt.out _).mono ?_;rintro e w' ⟨rfl,rfl⟩;go_wp2
  ·refine bodyPost_ret (v:=ci none) (by simp[results,Tryz.results137,go_sem,ci]) rfl ⟨?_,uZ⟩;rw[HT.out];rfl
  refine bodyPost_ret (v:=Ym #[.agg #[Yh Yn 3,Yi y,Yh Yn 0],Yh Yn ((m:Int)+1+1)]) (by simp[results,Tryz.results137,go_sem]) rfl ⟨?_,uZ⟩;rw[HT.out];simp only[if_true,Option.map_some,ci,iS,bn];rw[show(((m+2:Nat):Int))=(m:Int)+1+1 by omega]
 rw[decide_eq_false b1]at hp;have HP:=aa hp
 by_cases h1:1<=x.size
 rotate_left 1
 ·have hx0:x.1.1=[]:=List.eq_nil_of_length_eq_zero (by rw[St.aC];omega);have hI:St.eU x.1.1=none:=by rw[hx0];decide
  rw[hI]at hT;have HT:=aa hT;have be:=λW=>mx x W (by omega)
  rw[show St.aN x.1.1=false by rw[hx0];decide]at be;have bt:=aa be;have y1:¬(0:Int)<(x.size:Int):=by omega
  have y2:¬(0:Int)<(m:Int):=by omega
  clear hp hT hI b1 hx0 be;go_enter Tryz.func137,Tryz.ntmps137;go_wp2_with fail;refine(iw.out _).mono ?_;rintro e w' ⟨rfl,rfl⟩;go_wp2_with fail;refine(HP.out _).mono ?_;rintro e w' ⟨rfl,rfl⟩;go_wp2_with fail;refine(bt.out _).mono ?_;rintro e w' ⟨rfl,rfl⟩;go_wp2;refine bodyPost_ret (v:=ci none) (by simp[results,Tryz.results137,go_sem,ci]) rfl ⟨?_,uZ⟩;rw[HT.out];rfl
 obtain⟨j,hj⟩:∃j,x.size=j+1:=⟨x.size-1,by omega⟩;have hjl:j<x.size:=by omega
 have hlast:x.1.1.getLast?=some x[j]:=by
  rw[List.getLast?_eq_getElem?,St.aC,show x.size-1=j by omega];exact List.getElem?_eq_getElem (by rw[St.aC];exact hjl)
 have y1:(0:Int)<(x.size:Int):=by omega
 have y3:(x.size:Int)-1=(j:Int):=by omega
 have y4:(j:Int)<(x.size:Int):=by omega
 have y5:(0:Int)<=(j:Int):=by omega
 have y6:(j:Int)<=(x.size:Int):=by omega
 have XK:j<=x.size-1:=by omega
 have hjb:x.size-1<=j:=by omega
 clear hj
 by_cases b2:x[j].toNat=47
 ·have e2:((x[j].toNat:Int)==47)=true:=by simp;omega
  obtain⟨y,hY⟩:∃y,x.extract 0 j=y:=⟨_,rfl⟩;have iR:y.1.1=x.1.1.dropLast:=by rw[<-hY,Lib.extract_data,List.dropLast_eq_take,St.aC,show x.size-1=j by omega];simp
  have hys:y.size<=x.size:=by rw[<-hY];simp;omega
  have CP:x.1.1.getLast?=some 47:=by rw[hlast,show x[j]=47 from UInt8.toNat_inj.1 b2]
  have hI:St.eU x.1.1=if St.aN y.1.1 then some (4,y.1.1)else none:=by
   unfold St.eU;rw[if_neg b1,if_pos CP,iR]
  rw[hI]at hT;have be:=λW=>mx y W (by omega)
  clear hp hI b1 b2 iR hlast CP;cases hb:St.aN y.1.1
  all_goals
   rw[hb]at hT be;have HT:=aa hT;have bt:=aa be;clear hT be hb;go_enter Tryz.func137,Tryz.ntmps137;go_wp2_with fail;refine(iw.out _).mono ?_;rintro e w' ⟨rfl,rfl⟩;go_wp2_with fail;refine(HP.out _).mono ?_;rintro e w' ⟨rfl,rfl⟩;go_wp2_with fail;refine(bt.out _).mono ?_;rintro e w' ⟨rfl,rfl⟩;go_wp2
  ·refine bodyPost_ret (v:=ci none) (by simp[results,Tryz.results137,go_sem,ci]) rfl ⟨?_,uZ⟩;rw[HT.out];rfl
  refine bodyPost_ret (v:=Ym #[.agg #[Yh Yn 4,Yi y,Yh Yn 0],Yh Yn ((m:Int)+1+1)]) (by simp[results,Tryz.results137,go_sem]) rfl ⟨?_,uZ⟩;rw[HT.out];simp only[if_true,Option.map_some,ci,iS,bn];rw[show(((m+2:Nat):Int))=(m:Int)+1+1 by omega]
 have e2:((x[j].toNat:Int)==47)=false:=by simp;omega
 have CP:x.1.1.getLast?≠some 47:=by rw[hlast];intro e;apply b2;rw[Option.some.inj e];rfl
 have hI:St.eU x.1.1=if St.aN x.1.1 then some (2,x.1.1)else none:=by
  unfold St.eU;rw[if_neg b1,if_neg CP]
 rw[hI]at hT;have be:=λW=>mx x W (by omega)
 clear hp hI b1 b2 hlast CP;cases hb:St.aN x.1.1
 all_goals
  rw[hb]at hT be;have HT:=aa hT;have bt:=aa be;clear hT be hb;go_enter Tryz.func137,Tryz.ntmps137;go_wp2_with fail;refine(iw.out _).mono ?_;rintro e w' ⟨rfl,rfl⟩;go_wp2_with fail;refine(HP.out _).mono ?_;rintro e w' ⟨rfl,rfl⟩;go_wp2_with fail;refine(bt.out _).mono ?_;rintro e w' ⟨rfl,rfl⟩;go_wp2
 ·refine bodyPost_ret (v:=ci none) (by simp[results,Tryz.results137,go_sem,ci]) rfl ⟨?_,uZ⟩;rw[HT.out];rfl
 refine bodyPost_ret (v:=Ym #[.agg #[Yh Yn 2,Yi x,Yh Yn 0],Yh Yn ((m:Int)+1+1)]) (by simp[results,Tryz.results137,go_sem]) rfl ⟨?_,uZ⟩;rw[HT.out];simp only[if_true,Option.map_some,ci,iS,bn];rw[show(((m+2:Nat):Int))=(m:Int)+1+1 by omega]
end
section
theorem xY(W:Ys):(Instr.index 224 (.agg #[Yi ⟨#[38,108,116,59,60]⟩,Yi ⟨#[38,103,116,59,62]⟩,Yi ⟨#[38,97,109,112,59,38]⟩,Yi ⟨#[38,108,98,59,123]⟩,Yi ⟨#[38,114,98,59,125]⟩]) (Yh Yn 0)).run Tryz.prog W=.ok (Yi ⟨#[38,108,116,59,60]⟩) W /\
  (Instr.index 224 (.agg #[Yi ⟨#[38,108,116,59,60]⟩,Yi ⟨#[38,103,116,59,62]⟩,Yi ⟨#[38,97,109,112,59,38]⟩,Yi ⟨#[38,108,98,59,123]⟩,Yi ⟨#[38,114,98,59,125]⟩]) (Yh Yn 1)).run Tryz.prog W=.ok (Yi ⟨#[38,103,116,59,62]⟩) W /\
  (Instr.index 224 (.agg #[Yi ⟨#[38,108,116,59,60]⟩,Yi ⟨#[38,103,116,59,62]⟩,Yi ⟨#[38,97,109,112,59,38]⟩,Yi ⟨#[38,108,98,59,123]⟩,Yi ⟨#[38,114,98,59,125]⟩]) (Yh Yn 2)).run Tryz.prog W=.ok (Yi ⟨#[38,97,109,112,59,38]⟩) W /\
  (Instr.index 224 (.agg #[Yi ⟨#[38,108,116,59,60]⟩,Yi ⟨#[38,103,116,59,62]⟩,Yi ⟨#[38,97,109,112,59,38]⟩,Yi ⟨#[38,108,98,59,123]⟩,Yi ⟨#[38,114,98,59,125]⟩]) (Yh Yn 3)).run Tryz.prog W=.ok (Yi ⟨#[38,108,98,59,123]⟩) W /\
  (Instr.index 224 (.agg #[Yi ⟨#[38,108,116,59,60]⟩,Yi ⟨#[38,103,116,59,62]⟩,Yi ⟨#[38,97,109,112,59,38]⟩,Yi ⟨#[38,108,98,59,123]⟩,Yi ⟨#[38,114,98,59,125]⟩]) (Yh Yn 4)).run Tryz.prog W=.ok (Yi ⟨#[38,114,98,59,125]⟩) W:=
 ⟨by kernel_rfl,by kernel_rfl,by kernel_rfl,by kernel_rfl,by kernel_rfl⟩
theorem OG:(⟨#[38,108,116,59,60]⟩:ByteArray).extract 0 4=⟨#[38,108,116,59]⟩/\(⟨#[38,103,116,59,62]⟩:ByteArray).extract 0 4=⟨#[38,103,116,59]⟩/\(⟨#[38,97,109,112,59,38]⟩:ByteArray).extract 0 5=⟨#[38,97,109,112,59]⟩/\(⟨#[38,108,98,59,123]⟩:ByteArray).extract 0 4=⟨#[38,108,98,59]⟩/\(⟨#[38,114,98,59,125]⟩:ByteArray).extract 0 4=⟨#[38,114,98,59]⟩:=⟨by decide,by decide,by decide,by decide,by decide⟩
theorem vl(w:Ys)(b:Nat){a0 a1 a2:Value}{T:TypeId}(h:w.1[b]?=some (Yo #[a0,a1,a2] T))(v0 v1 v2:Value) :
  (((w.setCell ⟨b,0,none⟩ v0).setCell ⟨b,1,none⟩ v1).setCell ⟨b,2,none⟩ v2).1[b]?=some (Yo #[v0,v1,v2] T):=
 heap_setCell_same _ _ 2 _ _ v2 (heap_setCell_same _ _ 1 _ _ v1 (heap_setCell_same _ _ 0 _ _ v0 h))
theorem vk(W:Ys)(b:Nat){v0 v1 v2:Value}{T:TypeId}(h:W.1[b]?=some (Yo #[v0,v1,v2] T)):W.cell? ⟨b,0,none⟩=some v0/\W.cell? ⟨b,1,none⟩=some v1/\W.cell? ⟨b,2,none⟩=some v2/\b<W.1.size:=
 ⟨aj h 0,aj h 1,aj h 2,ae h⟩
theorem EE(s:ByteArray)(w:Ys)(hs:s.size<=4611686018427387904)(h0:1<=s.size) :
  Calls Tryz.prog 144 #[Yi s] w λe w'=>e=Yp (ci (St.bV s.1.1))/\ac w w':=by
 have hcr:s.1.1=s[0] :: s.1.1.drop 1:=St.fB s (by omega);have z0:0<s.size:=by omega
 by_cases gY:s[0].toNat=60
 ·have hsl:=St.ow (r:=s.1.1.drop 1) gY;rw[<-hcr]at hsl;have Qz:((s[0].toNat:Int)==60)=true:=by simp;omega
  have dR:=aa (λW=>DR s W hs h0);unfold St.tS at hsl;clear hcr gY;cases hq:St.fW s.1.1 with
  | none=>
   rw[hq]at hsl dR;have bm:=aa hsl;have Gl:Hid (∀W,Calls Tryz.prog 137 #[Yi s] W λe w'=>e=Yp (Ym #[.agg #[Yh Yn 0,Yi ⟨#[]⟩,Yh Yn 0],Yh Yn 0])/\ac W w'):=dR;clear hsl hq dR;go_enter Tryz.func144,Tryz.ntmps144;go_wp2_with fail;refine(Gl.out _).mono ?_;rintro e w2 ⟨rfl,hu⟩;have hbr:=(hu.below.block w.1.size (by simp)).trans (bJ w (Yo #[Yh Yn 0,Yi ⟨#[]⟩,Yh Yn 0] 36) w.1.size rfl);have r0:w2.cell? ⟨w.1.size,0,none⟩=some (Yh Yn 0):=aj hbr 0;have r1:w2.cell? ⟨w.1.size,1,none⟩=some (Yi ⟨#[]⟩):=aj hbr 1;have r2:w2.cell? ⟨w.1.size,2,none⟩=some (Yh Yn 0):=aj hbr 2;have p0:w2.frozen? ⟨w.1.size,0,none⟩=false:=bz hbr 0;have p1:w2.frozen? ⟨w.1.size,1,none⟩=false:=bz hbr 1;have p2:w2.frozen? ⟨w.1.size,2,none⟩=false:=bz hbr 2;haveI:af w.1.size w2:=af.of (ae hbr);have HU:=aa (((ac.refl w).alloc _).trans hu);have HB:=aa (vl w2 w.1.size hbr (Yh Yn 0) (Yi ⟨#[]⟩) (Yh Yn 0));clear hu hbr;go_wp2;have JH:=((HU.out.setCell (p:=⟨w.1.size,0,none⟩) (Nat.le_refl _) (Yh Yn 0)).setCell (p:=⟨w.1.size,1,none⟩) (Nat.le_refl _) (Yi ⟨#[]⟩)).setCell (p:=⟨w.1.size,2,none⟩) (Nat.le_refl _) (Yh Yn 0);obtain⟨f0,f1,f2,f3⟩:=vk _ _ HB.out;generalize((w2.setCell ⟨w.1.size,0,none⟩ (Yh Yn 0)).setCell ⟨w.1.size,1,none⟩ (Yi ⟨#[]⟩)).setCell ⟨w.1.size,2,none⟩ (Yh Yn 0)=W5 at *;haveI:af w.1.size W5:=af.of f3;refine bodyPost_ret (v:=ci none) (by simp[results,Tryz.results144,go_sem,ci,f0,f1,f2]) rfl ⟨?_,JH.trans uZ⟩;rw[bm.out]
  | some q=>
   obtain⟨k,t,n⟩:=q;rw[hq]at hsl dR;simp only at hsl;have hnn:2<=n:=(St.kN hq).2.1
   have htl:t.length<=4611686018427387904:=by
    have:=St.kN hq
    rw[St.aC]at this;omega
   obtain⟨tb,fx⟩:∃tb:ByteArray,(⟨t.toArray⟩:ByteArray)=tb:=⟨_,rfl⟩;obtain⟨nb,hnb⟩:∃nb:ByteArray,(⟨(St.nameOf t).toArray⟩:ByteArray)=nb:=⟨_,rfl⟩;have mX:tb.1.1=t:=by rw[<-fx]
   have bt:=aa (λW=>kL t W htl);have Gl:Hid (∀W,Calls Tryz.prog 137 #[Yi s] W λe w'=>e=Yp (Ym #[.agg #[Yh Yn k,Yi ⟨t.toArray⟩,Yh Yn 0],Yh Yn n])/\ac W w'):=dR;have hib:=λW=>ti ⟨(St.nameOf t).toArray⟩ W
   have zn:((n:Int)==0)=false:=by simp;omega
   cases hb:St.bC (St.nameOf t)
   all_goals
    rw[hb]at hsl;rw[show St.bC (⟨(St.nameOf t).toArray⟩:ByteArray).1.1=_ from hb]at hib;have uQ:=aa hib;have bm:=aa hsl;rw[fx]at Gl;rw[fx,hnb]at bt;rw[hnb]at uQ;clear hsl hq hb hnb fx hib dR;go_enter Tryz.func144,Tryz.ntmps144;go_wp2_with fail;refine(Gl.out _).mono ?_;rintro e w2 ⟨rfl,hu⟩;have HU:=aa hu;clear hu;go_wp2_with fail;refine(bt.out _).mono ?_;rintro e w3 ⟨rfl,hu3⟩;have cZ:=(hu3.below.block w2.1.size (by simp)).trans (bJ w2 (Yo #[Yh Yn k,Yi tb,Yh Yn 0] 36) w2.1.size rfl);have x0:w3.cell? ⟨w2.1.size,0,none⟩=some (Yh Yn k):=aj cZ 0;have x1:w3.cell? ⟨w2.1.size,1,none⟩=some (Yi tb):=aj cZ 1;have x2:w3.cell? ⟨w2.1.size,2,none⟩=some (Yh Yn 0):=aj cZ 2;have hu0:ac (w.alloc (Yo #[Yh Yn 0,Yi ⟨#[]⟩,Yh Yn 0] 36)) w3:=HU.out.trans (ac.trans (uZ) hu3);have hbr:=(hu0.below.block w.1.size (by simp)).trans (bJ w (Yo #[Yh Yn 0,Yi ⟨#[]⟩,Yh Yn 0] 36) w.1.size rfl);have r0:w3.cell? ⟨w.1.size,0,none⟩=some (Yh Yn 0):=aj hbr 0;have r1:w3.cell? ⟨w.1.size,1,none⟩=some (Yi ⟨#[]⟩):=aj hbr 1;have r2:w3.cell? ⟨w.1.size,2,none⟩=some (Yh Yn 0):=aj hbr 2;have p0:w3.frozen? ⟨w.1.size,0,none⟩=false:=bz hbr 0;have p1:w3.frozen? ⟨w.1.size,1,none⟩=false:=bz hbr 1;have p2:w3.frozen? ⟨w.1.size,2,none⟩=false:=bz hbr 2;haveI:af w2.1.size w3:=af.of (ae cZ);haveI:af w.1.size w3:=af.of (ae hbr);have a7:=aa (((ac.refl w).alloc _).trans hu0);have Ta:=aa hbr;clear hu3 cZ hbr hu0 HU;go_wp2_with fail;refine(uQ.out _).mono ?_;rintro e w4 ⟨rfl,rfl⟩;go_wp2
   ·have JH:=((a7.out.setCell (p:=⟨w.1.size,0,none⟩) (Nat.le_refl _) (Yh Yn k)).setCell (p:=⟨w.1.size,1,none⟩) (Nat.le_refl _) (Yi tb)).setCell (p:=⟨w.1.size,2,none⟩) (Nat.le_refl _) (Yh Yn 0);obtain⟨f0,f1,f2,f3⟩:=vk _ _ (vl w3 w.1.size Ta.out (Yh Yn k) (Yi tb) (Yh Yn 0));generalize((w3.setCell ⟨w.1.size,0,none⟩ (Yh Yn k)).setCell ⟨w.1.size,1,none⟩ (Yi tb)).setCell ⟨w.1.size,2,none⟩ (Yh Yn 0)=W5 at *;haveI:af w.1.size W5:=af.of f3;refine bodyPost_ret (v:=Ym #[.agg #[Yh Yn k,Yi tb,Yh Yn 0],Yh Yn n]) (by simp[results,Tryz.results144,go_sem,f0,f1,f2]) rfl ⟨?_,JH.trans uZ⟩;rw[bm.out];simp only[Bool.false_eq_true,if_false,ci,iS,<-mX,bn]
   have JH:=((a7.out.setCell (p:=⟨w.1.size,0,none⟩) (Nat.le_refl _) (Yh Yn 0)).setCell (p:=⟨w.1.size,1,none⟩) (Nat.le_refl _) (Yi ⟨#[]⟩)).setCell (p:=⟨w.1.size,2,none⟩) (Nat.le_refl _) (Yh Yn 0);obtain⟨f0,f1,f2,f3⟩:=vk _ _ (vl w3 w.1.size Ta.out (Yh Yn 0) (Yi ⟨#[]⟩) (Yh Yn 0));generalize((w3.setCell ⟨w.1.size,0,none⟩ (Yh Yn 0)).setCell ⟨w.1.size,1,none⟩ (Yi ⟨#[]⟩)).setCell ⟨w.1.size,2,none⟩ (Yh Yn 0)=W5 at *;haveI:af w.1.size W5:=af.of f3;refine bodyPost_ret (v:=ci none) (by simp[results,Tryz.results144,go_sem,ci,f0,f1,f2]) rfl ⟨?_,JH.trans uZ⟩;rw[bm.out];rfl
 have Qz:((s[0].toNat:Int)==60)=false:=by simp;omega
 by_cases qO:s[0].toNat=38
 ·have hsl:=St.iU (r:=s.1.1.drop 1) qO;rw[<-hcr]at hsl;have e38:((s[0].toNat:Int)==38)=true:=by simp;omega
  have h1:=λW=>gC s ⟨#[38,108,116,59]⟩ W (by omega) (by show 4<=_;omega)
  have h2:=λW=>gC s ⟨#[38,103,116,59]⟩ W (by omega) (by show 4<=_;omega)
  have h3:=λW=>gC s ⟨#[38,97,109,112,59]⟩ W (by omega) (by show 5<=_;omega)
  have h4:=λW=>gC s ⟨#[38,108,98,59]⟩ W (by omega) (by show 4<=_;omega)
  have h5:=λW=>gC s ⟨#[38,114,98,59]⟩ W (by omega) (by show 4<=_;omega)
  have hv:St.sh s.1.1=if preB ⟨#[38,108,116,59]⟩ s then some (1,[60],4)else if preB ⟨#[38,103,116,59]⟩ s then some (1,[62],4)else if preB ⟨#[38,97,109,112,59]⟩ s then some (1,[38],5)else if preB ⟨#[38,108,98,59]⟩ s then some (1,[123],4)else if preB ⟨#[38,114,98,59]⟩ s then some (1,[125],4)else none:=rfl
  rw[hv]at hsl;have i0:=λW=>(xY W).1
  have i1:=λW=>(xY W).2.1
  have i2:=λW=>(xY W).2.2.1
  have i3:=λW=>(xY W).2.2.2.1
  have i4:=λW=>(xY W).2.2.2.2
  obtain⟨x1,x2,x3,x4,x5⟩:=OG;generalize preB ⟨#[38,108,116,59]⟩ s=b1 at h1 hsl;generalize preB ⟨#[38,103,116,59]⟩ s=b2 at h2 hsl;generalize preB ⟨#[38,97,109,112,59]⟩ s=b3 at h3 hsl;generalize preB ⟨#[38,108,98,59]⟩ s=b4 at h4 hsl;generalize preB ⟨#[38,114,98,59]⟩ s=b5 at h5 hsl;have bm:=aa hsl;have H1:=aa h1;have H2:=aa h2;have H3:=aa h3;have H4:=aa h4;have H5:=aa h5;clear hv h1 h2 h3 h4 h5 hsl hcr gY qO
  cases b1;rotate_left 1
  ·go_enter Tryz.func144,Tryz.ntmps144;go_wp2_with fail;refine wp_loop_rounds 6 ?_;rw[rounds_succ];go_wp2_with fail;refine(H1.out _).mono ?_;rintro e w' ⟨rfl,rfl⟩;go_wp2_with fail;refine(ja 60 60 rfl _).mono ?_;rintro e w2 ⟨rfl,X,rfl⟩;go_wp2;refine bodyPost_ret (v:=ci (some (1,[60],4))) (by simp[results,Tryz.results144,go_sem,ci,iS]) rfl ⟨?_,uZ⟩;rw[bm.out];rfl
  cases b2;rotate_left 1
  ·go_enter Tryz.func144,Tryz.ntmps144;go_wp2_with fail;refine wp_loop_rounds 6 ?_;rw[rounds_succ];go_wp2_with fail;refine(H1.out _).mono ?_;rintro e w' ⟨rfl,rfl⟩;go_wp2_with fail;rw[rounds_succ];go_wp2_with fail;refine(H2.out _).mono ?_;rintro e w' ⟨rfl,rfl⟩;go_wp2_with fail;refine(ja 62 62 rfl _).mono ?_;rintro e w2 ⟨rfl,X,rfl⟩;go_wp2;refine bodyPost_ret (v:=ci (some (1,[62],4))) (by simp[results,Tryz.results144,go_sem,ci,iS]) rfl ⟨?_,uZ⟩;rw[bm.out];rfl
  cases b3;rotate_left 1
  ·go_enter Tryz.func144,Tryz.ntmps144;go_wp2_with fail;refine wp_loop_rounds 6 ?_;rw[rounds_succ];go_wp2_with fail;refine(H1.out _).mono ?_;rintro e w' ⟨rfl,rfl⟩;go_wp2_with fail;rw[rounds_succ];go_wp2_with fail;refine(H2.out _).mono ?_;rintro e w' ⟨rfl,rfl⟩;go_wp2_with fail;rw[rounds_succ];go_wp2_with fail;refine(H3.out _).mono ?_;rintro e w' ⟨rfl,rfl⟩;go_wp2_with fail;refine(ja 38 38 rfl _).mono ?_;rintro e w2 ⟨rfl,X,rfl⟩;go_wp2;refine bodyPost_ret (v:=ci (some (1,[38],5))) (by simp[results,Tryz.results144,go_sem,ci,iS]) rfl ⟨?_,uZ⟩;rw[bm.out];rfl
  cases b4;rotate_left 1
  ·go_enter Tryz.func144,Tryz.ntmps144;go_wp2_with fail;refine wp_loop_rounds 6 ?_;rw[rounds_succ];go_wp2_with fail;refine(H1.out _).mono ?_;rintro e w' ⟨rfl,rfl⟩;go_wp2_with fail;rw[rounds_succ];go_wp2_with fail;refine(H2.out _).mono ?_;rintro e w' ⟨rfl,rfl⟩;go_wp2_with fail;rw[rounds_succ];go_wp2_with fail;refine(H3.out _).mono ?_;rintro e w' ⟨rfl,rfl⟩;go_wp2_with fail;rw[rounds_succ];go_wp2_with fail;refine(H4.out _).mono ?_;rintro e w' ⟨rfl,rfl⟩;go_wp2_with fail;refine(ja 123 123 rfl _).mono ?_;rintro e w2 ⟨rfl,X,rfl⟩;go_wp2;refine bodyPost_ret (v:=ci (some (1,[123],4))) (by simp[results,Tryz.results144,go_sem,ci,iS]) rfl ⟨?_,uZ⟩;rw[bm.out];rfl
  cases b5;rotate_left 1
  ·go_enter Tryz.func144,Tryz.ntmps144;go_wp2_with fail;refine wp_loop_rounds 6 ?_;rw[rounds_succ];go_wp2_with fail;refine(H1.out _).mono ?_;rintro e w' ⟨rfl,rfl⟩;go_wp2_with fail;rw[rounds_succ];go_wp2_with fail;refine(H2.out _).mono ?_;rintro e w' ⟨rfl,rfl⟩;go_wp2_with fail;rw[rounds_succ];go_wp2_with fail;refine(H3.out _).mono ?_;rintro e w' ⟨rfl,rfl⟩;go_wp2_with fail;rw[rounds_succ];go_wp2_with fail;refine(H4.out _).mono ?_;rintro e w' ⟨rfl,rfl⟩;go_wp2_with fail;rw[rounds_succ];go_wp2_with fail;refine(H5.out _).mono ?_;rintro e w' ⟨rfl,rfl⟩;go_wp2_with fail;refine(ja 125 125 rfl _).mono ?_;rintro e w2 ⟨rfl,X,rfl⟩;go_wp2;refine bodyPost_ret (v:=ci (some (1,[125],4))) (by simp[results,Tryz.results144,go_sem,ci,iS]) rfl ⟨?_,uZ⟩;rw[bm.out];rfl
  go_enter Tryz.func144,Tryz.ntmps144;go_wp2_with fail;refine wp_loop_rounds 6 ?_;rw[rounds_succ];go_wp2_with fail;refine(H1.out _).mono ?_;rintro e w' ⟨rfl,rfl⟩;go_wp2_with fail;rw[rounds_succ];go_wp2_with fail;refine(H2.out _).mono ?_;rintro e w' ⟨rfl,rfl⟩;go_wp2_with fail;rw[rounds_succ];go_wp2_with fail;refine(H3.out _).mono ?_;rintro e w' ⟨rfl,rfl⟩;go_wp2_with fail;rw[rounds_succ];go_wp2_with fail;refine(H4.out _).mono ?_;rintro e w' ⟨rfl,rfl⟩;go_wp2_with fail;rw[rounds_succ];go_wp2_with fail;refine(H5.out _).mono ?_;rintro e w' ⟨rfl,rfl⟩;go_wp2_with fail;rw[rounds_succ];go_wp2;refine bodyPost_ret (v:=ci none) (by simp[results,Tryz.results144,go_sem,ci]) rfl ⟨?_,uZ⟩;rw[bm.out];rfl
 have e38:((s[0].toNat:Int)==38)=false:=by simp;omega
 by_cases dj:s[0].toNat=123
 ·have hsl:=St.lu (r:=s.1.1.drop 1) dj;rw[<-hcr]at hsl;have tu:((s[0].toNat:Int)==123)=true:=by simp;omega
  have bm:=aa hsl;have mq:=λW=>wa s W hs h0
  obtain⟨k,x,m,hv⟩:=mT ((St.cM s.1.1).map λx=>((5:Int),x.1,x.2));have HV:=aa hv;rw[hv]at mq;have HS:=aa mq;clear hsl hcr mq hv gY qO dj;go_enter Tryz.func144,Tryz.ntmps144;go_wp2_with (go_at_call 180;refine(HS.out _).mono ?_;rintro e w' ⟨rfl,X,rfl⟩);refine bodyPost_ret (v:=Ym #[.agg #[Yh Yn k,Yi x,Yh Yn 0],Yh Yn m]) (by simp[results,Tryz.results144,go_sem]) rfl ⟨?_,uZ⟩;rw[bm.out,HV.out]
 have tu:((s[0].toNat:Int)==123)=false:=by simp;omega
 have hsl:=St.kj (r:=s.1.1.drop 1) gY qO dj;rw[<-hcr]at hsl;have htx:=aa (λW=>ja s[0] (s[0].toNat:Int) rfl W);have bm:=aa hsl;clear hsl hcr gY qO dj;go_enter Tryz.func144,Tryz.ntmps144;go_wp2_with (go_at_call 179;refine(htx.out _).mono ?_;rintro e w' ⟨rfl,X,rfl⟩);refine bodyPost_ret (v:=ci (some (1,[s[0]],1))) (by simp[results,Tryz.results144,go_sem,ci,iS]) rfl ⟨?_,uZ⟩;rw[bm.out]
theorem vJ:Nd St.bV:=by
 intro l k t n h;obtain⟨hk,h1,h2,h3⟩:=St.pq h;exact⟨by omega,h1,h2,h3⟩
theorem yT:BM 1 St.bV:=by
 intro s w hs h0;obtain⟨k,x,m,hv⟩:=mT (St.bV s.1.1);have hsh:=λW=>EE s W hs h0
 rw[hv]at hsh;have HS:=aa hsh;have HV:=aa hv;clear hsh hv;go_enter Tryz.func104,Tryz.ntmps104;go_wp2_with (go_at_call 144;refine(HS.out _).mono ?_;rintro e w' ⟨rfl,X,rfl⟩);refine bodyPost_ret (v:=Ym #[.agg #[Yh Yn k,Yi x,Yh Yn 0],Yh Yn m]) (by simp[results,Tryz.results104,go_sem]) rfl ⟨?_,uZ⟩;rw[HV.out]
end
end Go.Proofs.YthoemdibbldndaaGreatDoor
namespace Go.Proofs.YthoemdibbldndaaGreatDoor.Mk
open Go.RowKit
theorem DD(n:Nat)(w:Ys)(hn:n<=4611686018427387904):Calls Tryz.prog 134 #[Yh Yn n] w λe w'=>e=Yp (Yi ⟨(Lib.decDigits n).toArray⟩)/\ac w w':=by
 have h0:¬(n:Int)<0:=by omega
 go_enter Tryz.func134,Tryz.ntmps134;go_wp2_with (go_at_call 176;refine(qw n _ hn).mono ?_;rintro e w' ⟨rfl,X,rfl⟩);go_ret;exact⟨rfl,uZ⟩
def BE(w:Ys)(d:ByteArray)(s6 s7:Value)(wr:Ys):Prop:=
 ∃(a r fuel:Nat) (s:St.PS),s6=Yh Yn a/\s7=Yh Yn r/\a<=d.size/\r<=a/\d.size-a<fuel/\s.2<=a/\s.1.length<=2*a/\RV wr w.1.size w.1.size d s/\iC d=St.jT d.1.1 (St.ez dE Lib.decDigits d.1.1 fuel a r s)/\ac w wr
theorem Fi{s t:List UInt8}{a:Nat}{z:Int}(h:Lib.index (s.drop a) t=z)(hz:z<0):l4 s t a=-1:=by unfold l4;rw[h,if_pos hz]
theorem Fh{s t:List UInt8}{a j:Nat}(h:Lib.index (s.drop a) t=(j:Int)):l4 s t a=((a+j:Nat):Int):=by unfold l4;rw[h,if_neg (by omega)];omega
theorem DQ(d:ByteArray)(w:Ys)(hd:d.size<=65536):Calls Tryz.prog 101 #[Yi d] w (aG (iC d) w):=by
 have fU:d.size<=4611686018427387904:=by omega
 have hlen:=St.aC d;have qU:RV (w.alloc (Yo #[Yi d,Yj none 0 0,Yh Yn 0] 191)) w.1.size w.1.size d ([],0):=⟨Nat.le_refl _,Yj none 0 0,heap_alloc_new w _,World.ownsRow_nil _ _ _ _⟩
 have tF:iC d=St.jT d.1.1 (St.ez dE Lib.decDigits d.1.1 (d.size+1) 0 0 ([],0)):=by
  unfold iC;rw[St.qi (by omega),hlen]
 have jM:=aa (And.intro qU (And.intro tF ((ac.refl w).alloc (Yo #[Yi d,Yj none 0 0,Yh Yn 0] 191))));have HLEN:=aa hlen;clear qU tF hlen;go_enter Tryz.func101,Tryz.ntmps101;go_wp2_with fail;go_loopw [6,7] (λs6 s7 wr=>BE w d s6 s7 wr) (λs6 _ _=>d.size+1-(intOf s6).toNat)
 case atStart=>exact⟨0,0,d.size+1,([],0),rfl,rfl,by omega,by omega,by omega,by simp,by simp,jM.out.1,jM.out.2.1,jM.out.2.2⟩
 case round=>
  obtain⟨a,r,fuel,s,rfl,rfl,ha,Rs,hfu,hs2,hs1,hP,hS,hu⟩:=hrel;have HP:=aa hP;have HS:=aa hS;have HU:=aa hu;have hsz:=hu.size;clear hP hS hu jM
  by_cases hlt:a<d.size
  rotate_left 1
  ·have JI:a=d.size:=by omega
   have HL:=aa (vV wr w.1.size w.1.size d s HP.out (by omega) (by omega) (by omega) hsz);have HR:=aa (HS.out.trans (show St.jT d.1.1 (St.ez dE Lib.decDigits d.1.1 fuel a r s)=(St.cI d.1.1 s,0,0)by rw[St.iV (by rw[HLEN.out];omega)];rfl));have z:¬(a:Int)<d.size:=by omega
   go_wp2_with fail;refine HL.out.mono ?_;rintro e w3 ⟨A,c,rfl,lK,hq1,hq2,hbl⟩;have HE:=aa (And.intro lK (ac.cn (Below.trans HU.out.below hbl)));have mW:=aa hq1;clear lK hbl hq1 HL;go_wp2;go_ret3;unfold aG;rw[HR.out];exact⟨A,c,by simp[St.cI],HE.out.1,by simpa[St.cI]using mW.out,hq2,HE.out.2⟩
  obtain⟨fuel,rfl⟩:∃m,fuel=m+1:=⟨fuel-1,by omega⟩;have ek:=aa (show ¬d.1.1.length<=a by rw[HLEN.out];omega);have z:(a:Int)<d.size:=by omega
  have z2:(a:Int)<=d.size:=by omega
  have av:=St.drop_at d a hlt
  by_cases gY:d[a].toNat=60
  rotate_left 1
  ·have f60:((d[a].toNat:Int) != 60)=true:=by simp;omega
   have ho:St.dF (d.1.1.drop a)=some (1,[]):=St.rl (by rw[av];simp;intro e;exact gY (by rw[e];rfl));have HST:=aa (HS.out.trans (by rw[St.jq ek.out ho]):iC d=St.jT d.1.1 (St.ez dE Lib.decDigits d.1.1 fuel (a+1) r s));clear av gY ho;go_wp2;exact⟨⟨a+1,r,fuel,s,congrArg (Yh Yn) (by omega),rfl,by omega,by omega,by omega,by omega,by omega,HP.out,HST.out,HU.out⟩,by simp[intOf];omega⟩
  have f60:((d[a].toNat:Int) != 60)=false:=by simp;omega
  obtain⟨x,hx⟩:∃x,d.extract a d.size=x:=⟨_,rfl⟩;have hxl:x.1.1=d.1.1.drop a:=by rw[<-hx,Lib.extract_data,List.take_of_length_le (by simp)]
  have hxs:x.size=d.size-a:=by rw[<-hx];simp
  have mK:(d.1.1.drop a).head?=some 60:=by rw[av];simp;exact UInt8.toNat_inj.1 gY
  have hbg:=λW=>gC x ⟨#[60,33,45,45]⟩ W (by omega) (by show 4<=_;omega)
  have cC:=λW=>DR x W (by omega) (by omega)
  rw[hxl]at cC
  have fV:St.dF (d.1.1.drop a)=none->iC d=([],a,2):=λho=>HS.out.trans (by rw[St.oz ek.out ho];rfl)
  cases hp:preB ⟨#[60,33,45,45]⟩ x with
  | true=>
   rw[hp]at hbg;have hp':([60,33,45,45]:List UInt8).isPrefixOf (d.1.1.drop a)=true:=by rw[<-hxl];exact hp
   have h4:a+4<=d.size:=by have:=(List.isPrefixOf_iff_prefix.1 hp').length_le;simp at this;omega
   have hR:=St.r7 hp';rw[List.drop_drop]at hR;have eO:=λW=>ub d ⟨#[45,45,62]⟩ (a+4) W (by decide) (by decide) h4 fU
   have Wp:((a+4:Nat):Int)=(a:Int)+4:=by omega
   rw[show(⟨#[45,45,62]⟩:ByteArray).1.1=[45,45,62]from rfl,Wp]at eO;have hge:=Lib.index_ge (d.1.1.drop (a+4)) [45,45,62];have uP:=aa hbg;have hno:=St.wS hp';rw[hno]at cC
   by_cases hz:Lib.index (d.1.1.drop (a+4)) [45,45,62]<0
   ·rw[if_pos hz]at hR;rw[Fi rfl hz]at eO;have iw:=aa eO;have dR:=aa cC;have HR:=aa (fV hR);have bt:=aa (λW=>kL [] W (by simp));clear hbg cC fV eO hR hz hge hno hp' hp mK av gY hxl;go_wp2_with fail;refine(uP.out _).mono ?_;rintro e w2 ⟨rfl,rfl⟩;go_wp2_with fail;refine(iw.out _).mono ?_;rintro e w3 ⟨rfl,rfl⟩;go_wp2_with fail;refine(dR.out _).mono ?_;rintro e w4 ⟨rfl,bf⟩;have fj:=aa (HU.out.trans bf);clear bf dR;simp only[ci];go_wp2_with fail;refine(bt.out _).mono ?_;rintro e w5 ⟨rfl,bg⟩;have dh:=aa ((fj.out.alloc _).trans bg);clear bg bt;go_wp2;go_ret3;exact aG.err HR.out dh.out _ rfl
   obtain⟨j,hj⟩:∃j:Nat,Lib.index (d.1.1.drop (a+4)) [45,45,62]=(j:Int):=⟨_,(Int.toNat_of_nonneg (by omega)).symm⟩;have Fx:=St.index_room hj (by simp);simp at Fx;rw[hj,if_neg (by omega),Int.toNat_natCast]at hR;rw[Fh hj]at eO;have iw:=aa eO;have HST:=aa (HS.out.trans (by rw[St.jq ek.out hR]):iC d=St.jT d.1.1 (St.ez dE Lib.decDigits d.1.1 fuel (a+(j+7)) r s));clear hbg cC fV eO hR hz hge hno hp' hp mK av gY hxl hj;generalize hk:a+4+j=k at iw;go_wp2_with fail;refine(uP.out _).mono ?_;rintro e w2 ⟨rfl,rfl⟩;go_wp2_with fail;refine(iw.out _).mono ?_;rintro e w3 ⟨rfl,rfl⟩;go_wp2;exact⟨⟨a+(j+7),r,fuel,s,congrArg (Yh Yn) (by omega),rfl,by omega,by omega,by omega,by omega,by omega,HP.out,HST.out,HU.out⟩,by simp[intOf];omega⟩
  | false=>
   rw[hp]at hbg;have hp':([60,33,45,45]:List UInt8).isPrefixOf (d.1.1.drop a)=false:=by rw[<-hxl];exact hp
   have hR:=St.na mK hp';have uP:=aa hbg;cases hq:St.fW (d.1.1.drop a)with
   | none=>
    rw[hq]at hR cC;have dR:=aa cC;have HR:=aa (fV hR);have bt:=aa (λW=>kL [] W (by simp));clear hbg cC fV hR hp' hp mK av gY hxl hq;go_wp2_with fail;refine(uP.out _).mono ?_;rintro e w2 ⟨rfl,rfl⟩;go_wp2_with fail;refine(dR.out _).mono ?_;rintro e w4 ⟨rfl,bf⟩;have fj:=aa (HU.out.trans bf);clear bf dR;simp only[ci];go_wp2_with fail;refine(bt.out _).mono ?_;rintro e w5 ⟨rfl,bg⟩;have dh:=aa ((fj.out.alloc _).trans bg);clear bg bt;go_wp2;go_ret3;exact aG.err HR.out dh.out _ rfl
   | some q=>
    obtain⟨k,t,n⟩:=q;obtain⟨hk,fe,hnl,htl⟩:=St.kN hq;rw[hq]at hR cC;simp only at hR;obtain⟨tb,fx⟩:∃tb:ByteArray,(⟨t.toArray⟩:ByteArray)=tb:=⟨_,rfl⟩;obtain⟨nb,hnb⟩:∃nb:ByteArray,(⟨(St.nameOf t).toArray⟩:ByteArray)=nb:=⟨_,rfl⟩;have Vg:t.length<=4611686018427387904:=by rw[List.length_drop,HLEN.out]at hnl;omega
    have be:=λW=>kL t W Vg
    rw[fx,hnb]at be;have pc:nb.1.1=St.nameOf t:=by rw[<-hnb]
    have Rj:nb.size=(St.nameOf t).length:=by rw[<-hnb];show(St.nameOf t).toArray.size=_;simp
    have hbk:=λW=>ti nb W
    rw[pc]at hbk;have nW:∀W,Calls Tryz.prog 137 #[Yi x] W λe w'=>e=Yp (Ym #[.agg #[Yh Yn k,Yi ⟨t.toArray⟩,Yh Yn 0],Yh Yn n])/\ac W w':=cC
    rw[fx]at nW;have dR:=aa nW;have bt:=aa be;have n0:((n:Int)==0)=false:=by simp;omega
    have U6:a+n<=d.size:=by rw[List.length_drop,HLEN.out]at hnl;omega
    cases hb:St.bC (St.nameOf t)with
    | false=>
     rw[hb]at hR hbk;have HST:=aa (HS.out.trans (by rw[St.jq ek.out hR]):iC d=St.jT d.1.1 (St.ez dE Lib.decDigits d.1.1 fuel (a+n) r s));have jK:=aa hbk;clear hbg cC nW fV hR hp' hp mK av gY hxl hq hbk hb be fx hnb pc Rj hnl;go_wp2_with fail;refine(uP.out _).mono ?_;rintro e w2 ⟨rfl,rfl⟩;go_wp2_with fail;refine(dR.out _).mono ?_;rintro e w4 ⟨rfl,bf⟩;have fj:=aa (HU.out.trans bf);have qK:=aa (HP.out.ai bf);clear bf dR;go_wp2_with fail;refine(bt.out _).mono ?_;rintro e w5 ⟨rfl,bg⟩;have dh:=aa ((fj.out.alloc _).trans bg);have sY:=aa (qK.out.ai (((ac.refl _).alloc _).trans bg));clear bg bt;go_wp2_with fail;refine(jK.out _).mono ?_;rintro e w6 ⟨rfl,rfl⟩;go_wp2_with fail;refine(jK.out _).mono ?_;rintro e w6 ⟨rfl,rfl⟩;go_wp2;exact⟨⟨a+n,r,fuel,s,congrArg (Yh Yn) (by omega),rfl,by omega,by omega,by omega,by omega,by omega,sY.out,HST.out,dh.out⟩,by simp[intOf];omega⟩
    | true=>
     rw[hb]at hR hbk;have jK:=aa hbk;have G0:=St.tj hb;obtain⟨b,hbE⟩:∃b,St.nameOf t=b:=⟨_,rfl⟩;rw[hbE]at hR pc Rj G0;clear hbg cC nW hp' hp mK av gY hxl hq hbk hb be fx hnb hnl hbE
     by_cases hk2:k=2
     rotate_left 1
     ·have hkb:(k != 2)=true:=by simpa using hk2
      have HR:=aa (fV (by rw[hR,if_pos rfl,if_neg hk2]));clear fV hR hk hk2;go_wp2_with fail;refine(uP.out _).mono ?_;rintro e w2 ⟨rfl,rfl⟩;go_wp2_with fail;refine(dR.out _).mono ?_;rintro e w4 ⟨rfl,bf⟩;have fj:=aa (HU.out.trans bf);clear bf dR;go_wp2_with fail;refine(bt.out _).mono ?_;rintro e w5 ⟨rfl,bg⟩;have cZ:=(bg.below.block w4.1.size (by simp)).trans (bJ w4 (Yo #[Yh Yn k,Yi tb,Yh Yn 0] 36) w4.1.size rfl);have x0:w5.cell? ⟨w4.1.size,0,none⟩=some (Yh Yn k):=aj cZ 0;haveI:af w4.1.size w5:=af.of (ae cZ);have dh:=aa ((fj.out.alloc _).trans bg);clear bg bt cZ;go_wp2_with fail;refine(jK.out _).mono ?_;rintro e w6 ⟨rfl,rfl⟩;go_wp2;go_ret3;exact aG.err HR.out dh.out _ rfl
     subst hk2;have ho:St.dF (d.1.1.drop a)=some (n,b):=by rw[hR,if_pos rfl,if_pos rfl]
     have hb0:b≠[]:=G0.1;have cA:=G0.2;clear fV hR hk G0;obtain⟨x2,hx2⟩:∃x2,d.extract (a+n) d.size=x2:=⟨_,rfl⟩;have tR:x2.1.1=d.1.1.drop (a+n):=by rw[<-hx2,Lib.extract_data,List.take_of_length_le (by simp)]
     have Hi:x2.size=d.size-(a+n):=by rw[<-hx2];simp
     obtain⟨eb,fa⟩:∃eb:ByteArray,(⟨#[60,47]⟩:ByteArray)++nb++⟨#[62]⟩=eb:=⟨_,rfl⟩;have tJ:eb.1.1=St.dn b:=by rw[<-fa,<-pc];have:=ef nb.1.1;rwa [bn]at this
     have UZ:eb.size=b.length+3:=by have:=congrArg List.length tJ;rw[St.aC]at this;rw[this];simp[St.dn]
     have eO:=λW=>ub d eb (a+n) W (by omega) (by omega) U6 fU
     have hq1:((a+n:Nat):Int)=(a:Int)+n:=by omega
     rw[tJ,hq1]at eO;have y1:((a:Int)+n)<=d.size:=by omega
     have y2:(0:Int)<=(a:Int)+n:=by omega
     have y3:¬9223372036854775807<2+nb.size:=by omega
     have y4:¬9223372036854775807<2+nb.size+1:=by omega
     have y5:((a:Int)+n).toNat=a+n:=by omega
     have hge:=Lib.index_ge (d.1.1.drop (a+n)) (St.dn b)
     by_cases hz:Lib.index (d.1.1.drop (a+n)) (St.dn b)<0
     ·have hN:=λhe=>St.mZ (dE:=dE) (dig:=Lib.decDigits) (fuel:=fuel) (r:=r) (s:=s) ek.out ho hb0 hz he
      have tE:=λhe=>St.lM (dE:=dE) (dig:=Lib.decDigits) (fuel:=fuel) (r:=r) (s:=s) ek.out ho hb0 hz he
      rw[Fi rfl hz]at eO;rw[<-tR,lf]at hN tE;have eG:=λW=>tY 1 St.bV yT vJ x2 W (by omega)
      rw[show St.du St.bV x2.size x2.1.1 0 0 [] [] [] 0=mu x2 from rfl]at eG;have hat:=xK x2;generalize mu x2=R at eG hat hN tE;obtain⟨rf,rc,iD,re⟩:=R;simp only at hN tE hat;have jd:=aa eG;have HN:=aa hN;have iy:=aa tE;have iw:=aa eO;clear eG hN tE eO hge hz ho hb0 tR tJ pc;go_wp2_with fail;refine(uP.out _).mono ?_;rintro e w2 ⟨rfl,rfl⟩;go_wp2_with fail;refine(dR.out _).mono ?_;rintro e w4 ⟨rfl,bf⟩;have fj:=aa (HU.out.trans bf);clear bf dR;go_wp2_with fail;refine(bt.out _).mono ?_;rintro e w5 ⟨rfl,bg⟩;have cZ:=(bg.below.block w4.1.size (by simp)).trans (bJ w4 (Yo #[Yh Yn 2,Yi tb,Yh Yn 0] 36) w4.1.size rfl);have x0:w5.cell? ⟨w4.1.size,0,none⟩=some (Yh Yn 2):=aj cZ 0;haveI:af w4.1.size w5:=af.of (ae cZ);have dh:=aa ((fj.out.alloc _).trans bg);clear bg bt cZ;go_wp2_with fail;refine(jK.out _).mono ?_;rintro e w6 ⟨rfl,rfl⟩;go_wp2_with fail;refine(jK.out _).mono ?_;rintro e w6 ⟨rfl,rfl⟩;go_wp2_with fail;refine(iw.out _).mono ?_;rintro e w7 ⟨rfl,rfl⟩;go_wp2_with fail;refine(jd.out _).mono ?_;rintro e w8 ⟨v1,v2,rfl,_,_,mr⟩;have mI:=aa (dh.out.trans mr);clear mr jd iw jK uP;simp only
      by_cases hre:re=0
      ·subst hre;have HR:=aa (HS.out.trans (by rw[HN.out rfl,HLEN.out];rfl):iC d=([],d.size,2));clear HN iy HS;go_wp2;go_ret3;exact aG.err HR.out mI.out _ rfl
      have Fw:(re==0)=false:=by simpa using hre
      have L5:(re != 0)=true:=by simpa using hre
      have HR:=aa (HS.out.trans (by rw[iy.out hre];rfl):iC d=([],a+n+iD,re));clear HN iy HS;go_wp2;go_ret3;exact aG.err HR.out mI.out _ (by omega)
     obtain⟨j,hj⟩:∃j:Nat,Lib.index (d.1.1.drop (a+n)) (St.dn b)=(j:Int):=⟨_,(Int.toNat_of_nonneg (by omega)).symm⟩;have Fx:=St.index_room hj (by simp[St.dn]);have hel:(St.dn b).length=b.length+3:=by simp[St.dn]
     rw[List.length_drop,HLEN.out,hel]at Fx;have hE:=λhe=>St.oA (dE:=dE) (dig:=Lib.decDigits) (fuel:=fuel) (r:=r) (s:=s) (j:=j) ek.out ho hb0 hj he
     have sJ:=λhe=>St.lx (dE:=dE) (dig:=Lib.decDigits) (fuel:=fuel) (r:=r) (s:=s) (j:=j) ek.out ho hb0 hj he
     rw[Fh hj]at eO;obtain⟨x3,hx3⟩:∃x3,d.extract (a+n) (a+n+j)=x3:=⟨_,rfl⟩;have hc3:St.a6 d.1.1 (a+n) (a+n+j)=x3.1.1:=by rw[<-hx3,eR]
     have Vi:x3.size<=d.size:=by rw[<-hx3];simp;omega
     rw[hc3,lf]at hE sJ;have eG:=λW=>tY 1 St.bV yT vJ x3 W (by omega)
     rw[show St.du St.bV x3.size x3.1.1 0 0 [] [] [] 0=mu x3 from rfl]at eG;have hat:=xK x3;generalize mu x3=R at eG hat hE sJ;obtain⟨rf,rc,iD,re⟩:=R;simp only at hE sJ hat;obtain⟨u,hu⟩:∃u,a+n+j=u:=⟨_,rfl⟩;have hun:=λW (hp:RV W w.1.size w.1.size d s) (hw:w.1.size<=W.1.size)=>qf W w.1.size w.1.size d ⟨(Lib.decDigits (r+1)).toArray⟩ s (a+n) (a+n+j) hp (by omega) (by omega) (by omega) fU (by omega) hw
     rw[hq1]at hun;rw[hu]at eO hx3 hun sJ;have jd:=aa eG;have HE:=aa hE;have iI:=aa sJ;have iw:=aa eO;have Ce:=aa hun;have y6:¬(u:Int)<0:=by omega
     have y8:(a:Int)+n<=(u:Int):=by omega
     have y9:(u:Int)<=d.size:=by omega
     have hr1:((r+1:Nat):Int)=(r:Int)+1:=by omega
     have HIT:=aa (λW=>DD (r+1) W (by omega));rw[hr1]at HIT;clear eG hE sJ eO hun hge hz hj ho hb0 tR tJ pc hel hc3 hq1 hr1;go_wp2_with fail;refine(uP.out _).mono ?_;rintro e w2 ⟨rfl,rfl⟩;go_wp2_with fail;refine(dR.out _).mono ?_;rintro e w4 ⟨rfl,bf⟩;have fj:=aa bf;clear bf dR;go_wp2_with fail;refine(bt.out _).mono ?_;rintro e w5 ⟨rfl,bg⟩;have cZ:=(bg.below.block w4.1.size (by simp)).trans (bJ w4 (Yo #[Yh Yn 2,Yi tb,Yh Yn 0] 36) w4.1.size rfl);have x0:w5.cell? ⟨w4.1.size,0,none⟩=some (Yh Yn 2):=aj cZ 0;haveI:af w4.1.size w5:=af.of (ae cZ);have dh:=aa ((fj.out.alloc _).trans bg);clear bg bt cZ;go_wp2_with fail;refine(jK.out _).mono ?_;rintro e w6 ⟨rfl,rfl⟩;go_wp2_with fail;refine(jK.out _).mono ?_;rintro e w6 ⟨rfl,rfl⟩;go_wp2_with fail;refine(iw.out _).mono ?_;rintro e w7 ⟨rfl,rfl⟩;go_wp2_with fail;refine(jd.out _).mono ?_;rintro e w8 ⟨v1,v2,rfl,_,_,mr⟩;have mI:=aa (dh.out.trans mr);clear mr jd iw jK uP dh fj;simp only
     by_cases hre:re=0
     ·subst hre;have HST:=aa (HS.out.trans (by rw[iI.out rfl]):iC d=St.jT d.1.1 (St.ez dE Lib.decDigits d.1.1 fuel (u+(b.length+3)) (r+1) (St.bi d.1.1 s (a+n) u (Lib.decDigits (r+1)))));have gm:=aa (HU.out.trans mI.out);have Tp:=aa (HP.out.ai mI.out);clear HE iI HS HU HP mI;go_wp2_with fail;refine(HIT.out _).mono ?_;rintro e w9 ⟨rfl,pk⟩;have Ts:=aa (Tp.out.ai pk);have Qh:=aa (gm.out.trans pk);have Vd:=Qh.out.size;clear pk HIT Tp gm;go_wp2_with fail;refine(Ce.out _ Ts.out Vd).mono ?_;rintro e wb ⟨rfl,hpb,hblb,_⟩;have VP:=aa hpb;have VZ:=aa (ac.cn (Below.trans Qh.out.below hblb));clear hpb hblb Ce Ts Qh;go_wp2;exact⟨⟨u+(b.length+3),r+1,fuel,_,congrArg (Yh Yn) (by omega),congrArg (Yh Yn) (by omega),by omega,by omega,by omega,by first|(simp[St.bi];done)|(simp[St.bi];omega),by first|(simp[St.bi];done)|(simp[St.bi];omega),VP.out,HST.out,VZ.out⟩,by simp[intOf];omega⟩
     have Fw:(re==0)=false:=by simpa using hre
     have L5:(re != 0)=true:=by simpa using hre
     have HR:=aa (HS.out.trans (by rw[HE.out hre];rfl):iC d=([],a+n+iD,re));have gm:=aa (HU.out.trans mI.out);clear HE iI HS HU mI;go_wp2;go_ret3;exact aG.err HR.out gm.out _ (by omega)
theorem mz(d:ByteArray)(w:Ys)(fU:d.size<=4611686018427387904):Calls Tryz.prog 60 #[Yh Yn 1,Yi d] w (aG (iC d) w):=by
 by_cases hbig:65536<d.size
 ·have hR:iC d=([],0,3):=by unfold iC St.ij;rw[if_pos (by rw[St.aC];omega)]
  have HR:=aa hR;have hb:(65536:Int)<d.size:=by omega
  clear hR;go_enter Tryz.func60,Tryz.ntmps60;go_wp2;go_ret3;exact aG.err HR.out (ac.refl _) _ rfl
 have hb:¬(65536:Int)<d.size:=by omega
 have HS:=aa (DQ d w (by omega));go_enter Tryz.func60,Tryz.ntmps60;go_wp2_with fail;refine HS.out.mono ?_;rintro e w' ⟨A,c,rfl,hp,h1,h2,hu⟩;have HP:=aa hp;clear hp;go_wp2;go_ret3;exact⟨A,c,rfl,HP.out,h1,h2,hu⟩
end Go.Proofs.YthoemdibbldndaaGreatDoor.Mk
