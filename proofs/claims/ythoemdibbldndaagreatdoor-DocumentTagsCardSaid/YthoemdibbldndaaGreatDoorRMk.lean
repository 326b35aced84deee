/- The contracts of the reference's find, tag and markup element: what they give is. -/
import Derived.Test.YthoemdibbldndaaGreatDoorGH
import Derived.Test.YthoemdibbldndaaGreatDoorRdsA
import Derived.LoopN
set_option linter.all false
set_option maxHeartbeats 0
set_option maxRecDepth 20000
open Go.Value renaming int->UM,string->UN,tuple->UR
namespace Go.Proofs.YthoemdibbldndaaGreatDoor
open Go.RowKit
def lC(s t:List UInt8)(a:Nat):Int:=if Lib.index (s.drop a) t<0 then -1 else a+Lib.index (s.drop a) t
def Pl(s t:ByteArray)(a:Nat)(w:World)(s7:Value)(wr:World):Prop:=∃k:Nat,s7=UM .i64 (a+k:Nat)/\a+k<=s.size+1/\Lib.NoOcc (s.1.1.drop a) t.1.1 k/\w=wr
theorem sS(s t:ByteArray)(a:Nat)(w:World)(ht:1<=t.size)(hts:t.size<=1000000)(ha:a<=s.size)(hs:s.size<=4611686018427387904) :
  Calls Tryz.prog 136 #[UN s,UN t,UM .i64 a] w λe w'=>e=.returned (UM .i64 (lC s.1.1 t.1.1 a))/\w=w':=by
 have hte:t.1.1≠[]:=by intro e;have:=St.aC t;rw[e]at this;simp at this;omega
 go_enter Tryz.func136,Tryz.ntmps136;go_wp2;go_loopw [7] (λs7 wr=>Pl s t a w s7 wr) (λs7 _=>s.size+2-(intOf s7).toNat)
 case atStart=>exact⟨0,rfl,by omega,Lib.NoOcc.zero _ _,rfl⟩
 case round=>
  obtain⟨k,rfl,hk,hno,rfl⟩:=hrel
  by_cases hlt:a+k+t.size<=s.size
  ·have z1:(((a+k:Nat):Int)+(t.size:Int))<=(s.size:Int):=by omega
   have hdd:(s.1.1.drop a).drop k=s.1.1.drop (a+k):=by rw[List.drop_drop]
   obtain⟨x,hx⟩:∃x,s.extract (a+k) (a+k+t.size)=x:=⟨_,rfl⟩
   have hxl:x.1.1=(s.1.1.drop (a+k)).take t.1.1.length:=by
    rw[<-hx,Lib.extract_data,St.aC];congr 1;omega
   have Ot:(x.toList==t.toList)=Lib.occAt (s.1.1.drop a) t.1.1 k:=by
    unfold Lib.occAt;rw[hdd,<-St.ms,Lib.toList_data,Lib.toList_data,hxl]
   have y1:((a+k:Nat):Int)<=((a+k:Nat):Int)+(t.size:Int):=by omega
   have hlen:(s.1.1.drop a).length=s.size-a:=by simp
   generalize hn:a+k=n at *;have o9:(n:Int)+(t.size:Int)=((n+t.size:Nat):Int):=by omega
   cases ho:Lib.occAt (s.1.1.drop a) t.1.1 k
   ·rw[ho]at Ot;have kl:=aa (hno.succ ho);clear hno ho hxl hdd hlen hte o9;go_wp2;exact⟨⟨k+1,congrArg (UM .i64) (by omega),by omega,kl.out,by trivial⟩,by simp[intOf];omega⟩
   rw[ho]at Ot
   have hfi:lC s.1.1 t.1.1 a=(n:Int):=by
    unfold lC;rw[Lib.index_hit hno (by omega) ho,if_neg (by omega)];omega
   have HF:=aa hfi;clear hno ho hxl hdd hlen hte o9 hfi;go_wp2;go_ret;exact⟨ba HF.out.symm,rfl⟩
  have z1:¬(((a+k:Nat):Int)+(t.size:Int))<=(s.size:Int):=by omega
  have hfi:lC s.1.1 t.1.1 a=-1:=by
   unfold lC;rw[Lib.index_past hte hno (by simp;omega),if_pos (by omega)]
  have HF:=aa hfi;have z2:(s.size:Int)<((a+k:Nat):Int)+(t.size:Int):=by omega
  clear hno hfi hte hlt;generalize a+k=n at *;go_wp2;go_ret;exact⟨ba HF.out.symm,rfl⟩
theorem Ml(s:ByteArray)(h:1<=s.size):lC s.1.1 [62] 1=if(St.da s.1.1).length+1<s.1.1.length then(((St.da s.1.1).length+1:Nat):Int)else -1:=by
 have bM:=St.ux (s.1.1.drop 1);rw[<-Lib.index_one,show(s.1.1.drop 1).takeWhile (λc=>decide (c.toNat≠62))=St.da s.1.1 from rfl,List.length_drop]at bM;unfold lC;rw[bM];have hl:=St.aC s;generalize(St.da s.1.1).length=n;generalize s.1.1.length=m at *
 by_cases h2:n+1<m
 ·rw[if_pos h2,if_pos (show n<m-1 by omega),if_neg (by omega)];omega
 rw[if_neg h2,if_neg (show ¬n<m-1 by omega),if_pos (by omega)]
theorem B6(s:ByteArray)(w:World)(hs:s.size<=4611686018427387904)(h0:1<=s.size) :
  Calls Tryz.prog 137 #[UN s] w λe w'=>e=.returned (cd (St.fR s.1.1))/\ac w w':=by
 have hlen:=St.aC s;have eG:=λW=>sS s ⟨#[62]⟩ 1 W (by decide) (by decide) h0 hs
 rw[show(⟨#[62]⟩:ByteArray).1.1=[62]from rfl,Ml s h0]at eG;have hpre:St.da s.1.1=(s.1.1.drop 1).take (St.da s.1.1).length:=List.prefix_iff_eq_take.1 (List.takeWhile_prefix _)
 by_cases hlt:(St.da s.1.1).length+1<s.1.1.length
 rotate_left 1
 ·have hR:=aa (St.zd hlt);rw[if_neg hlt]at eG;have ig:=aa eG;clear eG hlt hpre hlen;go_enter Tryz.func137,Tryz.ntmps137;go_wp2_with fail;refine(ig.out _).mono ?_;rintro e w' ⟨rfl,rfl⟩;go_wp2;refine bodyPost_ret (v:=cd none) (by simp[results,Tryz.results137,go_sem,cd]) rfl ⟨?_,uZ⟩;rw[hR.out]
 have hT:=St.ze hlt;rw[if_pos hlt]at eG;rw[hlen]at hlt;obtain⟨m,hm⟩:∃m,(St.da s.1.1).length=m:=⟨_,rfl⟩;obtain⟨x,hX⟩:∃x,s.extract 1 (m+1)=x:=⟨_,rfl⟩;have hxl:x.1.1=St.da s.1.1:=by rw[hpre,hm,<-hX,Lib.extract_data];simp
 rw[hm]at hT eG hlt;rw[<-hxl]at hT;have hxs:x.size=m:=by rw[<-St.aC,hxl,hm]
 have Tk:x.size<=m:=by omega
 have Hy:m<=x.size:=by omega
 clear hpre hlen hxl hm hxs;have z1:(1:Int)<=(m:Int)+1:=by omega
 have z2:(m:Int)+1<=(s.size:Int):=by omega
 have z3:¬(m:Int)+1<0:=by omega
 have o9:(((m+1:Nat):Int))=(m:Int)+1:=by omega
 rw[o9]at eG;have ig:=aa eG;have hp:=λW=>gk x ⟨#[47]⟩ W (by omega) (by show 1<=_;omega)
 have hpe:preB ⟨#[47]⟩ x=decide (x.1.1.head?=some 47):=St.LR _;rw[hpe]at hp;clear eG hpe o9
 by_cases b1:x.1.1.head?=some 47
 ·have hx1:1<=x.size:=by
   rw[<-St.aC];cases hq:x.1.1 with
   | nil=>rw[hq]at b1;cases b1
   | cons c r=>simp
  obtain⟨y,hY⟩:∃y,x.extract 1 x.size=y:=⟨_,rfl⟩;have iD:y.1.1=x.1.1.drop 1:=by rw[<-hY,Lib.extract_data,List.take_of_length_le (by simp)]
  have hys:y.size<=x.size:=by rw[<-hY];simp
  have hI:St.eL x.1.1=if St.aB y.1.1 then some (3,y.1.1)else none:=by
   unfold St.eL;rw[if_pos b1,iD]
  rw[hI]at hT;have a8:=λW=>mF y W (by omega)
  rw[decide_eq_true b1]at hp;have HP:=aa hp;have y1:(1:Int)<=(x.size:Int):=by omega
  clear hp hI b1 iD;cases hb:St.aB y.1.1
  all_goals
   rw[hb]at hT a8;have HT:=aa hT;have bl:=aa a8;clear hT a8 hb;go_enter Tryz.func137,Tryz.ntmps137;go_wp2_with fail;refine(ig.out _).mono ?_;rintro e w' ⟨rfl,rfl⟩;go_wp2_with fail;refine(HP.out _).mono ?_;rintro e w' ⟨rfl,rfl⟩;go_wp2_with fail;refine(bl.out _).mono ?_;rintro e w' ⟨rfl,rfl⟩;go_wp2
  ·refine bodyPost_ret (v:=cd none) (by simp[results,Tryz.results137,go_sem,cd]) rfl ⟨?_,uZ⟩;rw[HT.out];rfl
  refine bodyPost_ret (v:=UR #[.agg #[UM .i64 3,UN y,UM .i64 0],UM .i64 ((m:Int)+1+1)]) (by simp[results,Tryz.results137,go_sem]) rfl ⟨?_,uZ⟩;rw[HT.out];simp only[if_true,Option.map_some,cd,iE,be];rw[show(((m+2:Nat):Int))=(m:Int)+1+1 by omega]
 rw[decide_eq_false b1]at hp;have HP:=aa hp
 by_cases h1:1<=x.size
 rotate_left 1
 ·have hx0:x.1.1=[]:=List.eq_nil_of_length_eq_zero (by rw[St.aC];omega);have hI:St.eL x.1.1=none:=by rw[hx0];decide
  rw[hI]at hT;have HT:=aa hT;have a8:=λW=>lU x W (by omega)
  rw[show St.aI x.1.1=false by rw[hx0];decide]at a8;have bl:=aa a8;have y1:¬(0:Int)<(x.size:Int):=by omega
  have y2:¬(0:Int)<(m:Int):=by omega
  clear hp hT hI b1 hx0 a8;go_enter Tryz.func137,Tryz.ntmps137;go_wp2_with fail;refine(ig.out _).mono ?_;rintro e w' ⟨rfl,rfl⟩;go_wp2_with fail;refine(HP.out _).mono ?_;rintro e w' ⟨rfl,rfl⟩;go_wp2_with fail;refine(bl.out _).mono ?_;rintro e w' ⟨rfl,rfl⟩;go_wp2;refine bodyPost_ret (v:=cd none) (by simp[results,Tryz.results137,go_sem,cd]) rfl ⟨?_,uZ⟩;rw[HT.out];rfl
 obtain⟨j,hj⟩:∃j,x.size=j+1:=⟨x.size-1,by omega⟩;have hjl:j<x.size:=by omega
 have hlast:x.1.1.getLast?=some x[j]:=by
  rw[List.getLast?_eq_getElem?,St.aC,show x.size-1=j by omega];exact List.getElem?_eq_getElem (by rw[St.aC];exact hjl)
 have y1:(0:Int)<(x.size:Int):=by omega
 have y3:(x.size:Int)-1=(j:Int):=by omega
 have y4:(j:Int)<(x.size:Int):=by omega
 have y5:(0:Int)<=(j:Int):=by omega
 have y6:(j:Int)<=(x.size:Int):=by omega
 have Us:j<=x.size-1:=by omega
 have hjb:x.size-1<=j:=by omega
 clear hj
 by_cases b2:x[j].toNat=47
 ·have e2:((x[j].toNat:Int)==47)=true:=by simp;omega
  obtain⟨y,hY⟩:∃y,x.extract 0 j=y:=⟨_,rfl⟩;have iD:y.1.1=x.1.1.dropLast:=by rw[<-hY,Lib.extract_data,List.dropLast_eq_take,St.aC,show x.size-1=j by omega];simp
  have hys:y.size<=x.size:=by rw[<-hY];simp;omega
  have AN:x.1.1.getLast?=some 47:=by rw[hlast,show x[j]=47 from UInt8.toNat_inj.1 b2]
  have hI:St.eL x.1.1=if St.aI y.1.1 then some (4,y.1.1)else none:=by
   unfold St.eL;rw[if_neg b1,if_pos AN,iD]
  rw[hI]at hT;have a8:=λW=>lU y W (by omega)
  clear hp hI b1 b2 iD hlast AN;cases hb:St.aI y.1.1
  all_goals
   rw[hb]at hT a8;have HT:=aa hT;have bl:=aa a8;clear hT a8 hb;go_enter Tryz.func137,Tryz.ntmps137;go_wp2_with fail;refine(ig.out _).mono ?_;rintro e w' ⟨rfl,rfl⟩;go_wp2_with fail;refine(HP.out _).mono ?_;rintro e w' ⟨rfl,rfl⟩;go_wp2_with fail;refine(bl.out _).mono ?_;rintro e w' ⟨rfl,rfl⟩;go_wp2
  ·refine bodyPost_ret (v:=cd none) (by simp[results,Tryz.results137,go_sem,cd]) rfl ⟨?_,uZ⟩;rw[HT.out];rfl
  refine bodyPost_ret (v:=UR #[.agg #[UM .i64 4,UN y,UM .i64 0],UM .i64 ((m:Int)+1+1)]) (by simp[results,Tryz.results137,go_sem]) rfl ⟨?_,uZ⟩;rw[HT.out];simp only[if_true,Option.map_some,cd,iE,be];rw[show(((m+2:Nat):Int))=(m:Int)+1+1 by omega]
 have e2:((x[j].toNat:Int)==47)=false:=by simp;omega
 have AN:x.1.1.getLast?≠some 47:=by rw[hlast];intro e;apply b2;rw[Option.some.inj e];rfl
 have hI:St.eL x.1.1=if St.aI x.1.1 then some (2,x.1.1)else none:=by
  unfold St.eL;rw[if_neg b1,if_neg AN]
 rw[hI]at hT;have a8:=λW=>lU x W (by omega)
 clear hp hI b1 b2 hlast AN;cases hb:St.aI x.1.1
 all_goals
  rw[hb]at hT a8;have HT:=aa hT;have bl:=aa a8;clear hT a8 hb;go_enter Tryz.func137,Tryz.ntmps137;go_wp2_with fail;refine(ig.out _).mono ?_;rintro e w' ⟨rfl,rfl⟩;go_wp2_with fail;refine(HP.out _).mono ?_;rintro e w' ⟨rfl,rfl⟩;go_wp2_with fail;refine(bl.out _).mono ?_;rintro e w' ⟨rfl,rfl⟩;go_wp2
 ·refine bodyPost_ret (v:=cd none) (by simp[results,Tryz.results137,go_sem,cd]) rfl ⟨?_,uZ⟩;rw[HT.out];rfl
 refine bodyPost_ret (v:=UR #[.agg #[UM .i64 2,UN x,UM .i64 0],UM .i64 ((m:Int)+1+1)]) (by simp[results,Tryz.results137,go_sem]) rfl ⟨?_,uZ⟩;rw[HT.out];simp only[if_true,Option.map_some,cd,iE,be];rw[show(((m+2:Nat):Int))=(m:Int)+1+1 by omega]
