/- The contracts of the reference's find, tag and markup element: what they give is. -/
import Derived.Test.YthoemdibbldndaaGreatDoorGH
import Derived.Test.YthoemdibbldndaaGreatDoorRdsA
import Derived.LoopN
set_option linter.unusedVariables false
set_option linter.unusedSimpArgs false
set_option maxHeartbeats 12800000
set_option maxRecDepth 20000
namespace Go.Proofs.YthoemdibbldndaaGreatDoor
open Go.RowKit
def findI(s t:List UInt8)(a:Nat):Int:=if Lib.index (s.drop a) t<0 then -1 else a+Lib.index (s.drop a) t
def FdRel(s t:ByteArray)(a:Nat)(w:World)(s7:Value)(wr:World):Prop:=∃ k:Nat,s7=.int .i64 (a+k:Nat)/\a+k<=s.size+1/\Lib.NoOcc (s.data.toList.drop a) t.data.toList k/\w=wr
theorem rfind_any(s t:ByteArray)(a:Nat)(w:World)(ht:1<=t.size)(hts:t.size<=1000000)(ha:a<=s.size)(hs:s.size<=4611686018427387904) :
  Calls Tryz.prog 136 #[.string s,.string t,.int .i64 a] w fun e w'=>e=.returned (.int .i64 (findI s.data.toList t.data.toList a))/\w=w':=by
 have hte:t.data.toList ≠ []:=by intro e;have:=St.len_list t;rw[e] at this;simp at this;omega
 go_enter Tryz.func136,Tryz.ntmps136;go_wp2;go_loopw [7] (fun s7 wr=>FdRel s t a w s7 wr) (fun s7 _=>s.size+2-(intOf s7).toNat)
 case atStart=>exact⟨0,rfl,by omega,Lib.NoOcc.zero _ _,rfl⟩
 case round=>
  obtain⟨k,rfl,hk,hno,rfl⟩:=hrel
  by_cases hlt:a+k+t.size<=s.size
  ·have z1:(((a+k:Nat):Int)+(t.size:Int))<=(s.size:Int):=by omega
   have hdd:(s.data.toList.drop a).drop k=s.data.toList.drop (a+k):=by rw[List.drop_drop]
   obtain⟨x,hx⟩:∃ x,s.extract (a+k) (a+k+t.size)=x:=⟨_,rfl⟩
   have hxl:x.data.toList=(s.data.toList.drop (a+k)).take t.data.toList.length:=by
    rw[<- hx,Lib.extract_data,St.len_list];congr 1;omega
   have hocc:(x.toList==t.toList)=Lib.occAt (s.data.toList.drop a) t.data.toList k:=by
    unfold Lib.occAt;rw[hdd,<- St.pre_take,Lib.toList_data,Lib.toList_data,hxl]
   have y1:((a+k:Nat):Int)<=((a+k:Nat):Int)+(t.size:Int):=by omega
   have hlen:(s.data.toList.drop a).length=s.size-a:=by simp
   generalize hn:a+k=n at *;have hcast:(n:Int)+(t.size:Int)=((n+t.size:Nat):Int):=by omega
   cases ho:Lib.occAt (s.data.toList.drop a) t.data.toList k
   ·rw[ho] at hocc
    have HNO:=hid (hno.succ ho);clear hno ho hxl hdd hlen hte hcast;go_wp2;exact⟨⟨k+1,congrArg (Value.int .i64) (by omega),by omega,HNO.out,by trivial⟩,by simp[intOf];omega⟩
   ·rw[ho] at hocc
    have hfi:findI s.data.toList t.data.toList a=(n:Int):=by
     unfold findI;rw[Lib.index_hit hno (by omega) ho,if_neg (by omega)];omega
    have HF:=hid hfi;clear hno ho hxl hdd hlen hte hcast hfi;go_wp2;go_ret;exact⟨ret_int HF.out.symm,rfl⟩
  ·have z1:¬ (((a+k:Nat):Int)+(t.size:Int))<=(s.size:Int):=by omega
   have hfi:findI s.data.toList t.data.toList a=-1:=by
    unfold findI;rw[Lib.index_past hte hno (by simp;omega),if_pos (by omega)]
   have HF:=hid hfi;have z2:(s.size:Int)<((a+k:Nat):Int)+(t.size:Int):=by omega
   clear hno hfi hte hlt;generalize a+k=n at *;go_wp2;go_ret;exact⟨ret_int HF.out.symm,rfl⟩
theorem find_gt(s:ByteArray)(h:1<=s.size):findI s.data.toList [62] 1=if (St.innerL s.data.toList).length+1<s.data.toList.length then (((St.innerL s.data.toList).length+1:Nat):Int) else -1:=by
 have hix:=St.index_gt (s.data.toList.drop 1);rw[<- Lib.index_one,show (s.data.toList.drop 1).takeWhile (fun c=>decide (c.toNat ≠ 62))=St.innerL s.data.toList from rfl,List.length_drop] at hix;unfold findI;rw[hix];have hl:=St.len_list s;generalize (St.innerL s.data.toList).length=n;generalize s.data.toList.length=m at *
 by_cases h2:n+1<m
 ·rw[if_pos h2,if_pos (show n<m-1 by omega),if_neg (by omega)];omega
 ·rw[if_neg h2,if_neg (show ¬ n<m-1 by omega),if_pos (by omega)]
theorem rtag_any(s:ByteArray)(w:World)(hs:s.size<=4611686018427387904)(h0:1<=s.size) :
  Calls Tryz.prog 137 #[.string s] w fun e w'=>e=.returned (elV (St.tagL s.data.toList))/\Und w w':=by
 have hlen:=St.len_list s;have hfd:=fun W=>rfind_any s ⟨#[62]⟩ 1 W (by decide) (by decide) h0 hs
 rw[show (⟨#[62]⟩:ByteArray).data.toList=[62] from rfl,find_gt s h0] at hfd;have hpre:St.innerL s.data.toList=(s.data.toList.drop 1).take (St.innerL s.data.toList).length:=List.prefix_iff_eq_take.1 (List.takeWhile_prefix _)
 by_cases hlt:(St.innerL s.data.toList).length+1<s.data.toList.length
 rotate_left 1
 ·have hR:=hid (St.tag_none1 hlt)
  rw[if_neg hlt] at hfd;have HFD:=hid hfd;clear hfd hlt hpre hlen;go_enter Tryz.func137,Tryz.ntmps137;go_wp2_with fail;refine(HFD.out _).mono ?_;rintro e w' ⟨rfl,rfl⟩;go_wp2;refine bodyPost_ret (v:=elV none) (by simp[results,Tryz.results137,go_sem,elV]) rfl ⟨?_,(by apply_rules[uUe,uUa,uUb,uUc,uUd])⟩;rw[hR.out]
 ·have hT:=St.tag_some1 hlt
  rw[if_pos hlt] at hfd;rw[hlen] at hlt;obtain⟨m,hm⟩:∃ m,(St.innerL s.data.toList).length=m:=⟨_,rfl⟩;obtain⟨x,hX⟩:∃ x,s.extract 1 (m+1)=x:=⟨_,rfl⟩;have hxl:x.data.toList=St.innerL s.data.toList:=by rw[hpre,hm,<- hX,Lib.extract_data];simp
  rw[hm] at hT hfd hlt;rw[<- hxl] at hT;have hxs:x.size=m:=by rw[<- St.len_list,hxl,hm]
  have hxa:x.size<=m:=by omega
  have hxb:m<=x.size:=by omega
  clear hpre hlen hxl hm hxs;have z1:(1:Int)<=(m:Int)+1:=by omega
  have z2:(m:Int)+1<=(s.size:Int):=by omega
  have z3:¬ (m:Int)+1<0:=by omega
  have hcast:(((m+1:Nat):Int))=(m:Int)+1:=by omega
  rw[hcast] at hfd;have HFD:=hid hfd;have hp:=fun W=>begins_any x ⟨#[47]⟩ W (by omega) (by show 1<=_;omega)
  have hpe:preB ⟨#[47]⟩ x=decide (x.data.toList.head?=some 47):=St.pre47 _;rw[hpe] at hp;clear hfd hpe hcast
  by_cases b1:x.data.toList.head?=some 47
  ·have hx1:1<=x.size:=by
    rw[<- St.len_list];cases hq:x.data.toList with
    | nil=>rw[hq] at b1;cases b1
    | cons c r=>simp
   obtain⟨y,hY⟩:∃ y,x.extract 1 x.size=y:=⟨_,rfl⟩;have hyl:y.data.toList=x.data.toList.drop 1:=by rw[<- hY,Lib.extract_data,List.take_of_length_le (by simp)]
   have hys:y.size<=x.size:=by rw[<- hY];simp
   have hI:St.tagI x.data.toList=if St.isNameL y.data.toList then some (3,y.data.toList) else none:=by
    unfold St.tagI;rw[if_pos b1,hyl]
   rw[hI] at hT;have hnm:=fun W=>risname_any y W (by omega)
   rw[decide_eq_true b1] at hp;have HP:=hid hp;have y1:(1:Int)<=(x.size:Int):=by omega
   clear hp hI b1 hyl;cases hb:St.isNameL y.data.toList
   all_goals
    rw[hb] at hT hnm;have HT:=hid hT;have HNM:=hid hnm;clear hT hnm hb;go_enter Tryz.func137,Tryz.ntmps137;go_wp2_with fail;refine(HFD.out _).mono ?_;rintro e w' ⟨rfl,rfl⟩;go_wp2_with fail;refine(HP.out _).mono ?_;rintro e w' ⟨rfl,rfl⟩;go_wp2_with fail;refine(HNM.out _).mono ?_;rintro e w' ⟨rfl,rfl⟩;go_wp2
   ·refine bodyPost_ret (v:=elV none) (by simp[results,Tryz.results137,go_sem,elV]) rfl ⟨?_,(by apply_rules[uUe,uUa,uUb,uUc,uUd])⟩
    rw[HT.out];rfl
   ·refine bodyPost_ret (v:=.tuple #[.agg #[.int .i64 3,.string y,.int .i64 0],.int .i64 ((m:Int)+1+1)]) (by simp[results,Tryz.results137,go_sem]) rfl ⟨?_,(by apply_rules[uUe,uUa,uUb,uUc,uUd])⟩
    rw[HT.out];simp only[if_true,Option.map_some,elV,itv,ba_eta];rw[show (((m+2:Nat):Int))=(m:Int)+1+1 by omega]
  ·rw[decide_eq_false b1] at hp
   have HP:=hid hp
   by_cases h1:1<=x.size
   rotate_left 1
   ·have hx0:x.data.toList=[]:=List.eq_nil_of_length_eq_zero (by rw[St.len_list];omega)
    have hI:St.tagI x.data.toList=none:=by rw[hx0];decide
    rw[hI] at hT;have HT:=hid hT;have hnm:=fun W=>rcontent_any x W (by omega)
    rw[show St.isContentL x.data.toList=false by rw[hx0];decide] at hnm;have HNM:=hid hnm;have y1:¬ (0:Int)<(x.size:Int):=by omega
    have y2:¬ (0:Int)<(m:Int):=by omega
    clear hp hT hI b1 hx0 hnm;go_enter Tryz.func137,Tryz.ntmps137;go_wp2_with fail;refine(HFD.out _).mono ?_;rintro e w' ⟨rfl,rfl⟩;go_wp2_with fail;refine(HP.out _).mono ?_;rintro e w' ⟨rfl,rfl⟩;go_wp2_with fail;refine(HNM.out _).mono ?_;rintro e w' ⟨rfl,rfl⟩;go_wp2;refine bodyPost_ret (v:=elV none) (by simp[results,Tryz.results137,go_sem,elV]) rfl ⟨?_,(by apply_rules[uUe,uUa,uUb,uUc,uUd])⟩;rw[HT.out];rfl
   obtain⟨j,hj⟩:∃ j,x.size=j+1:=⟨x.size-1,by omega⟩;have hjl:j<x.size:=by omega
   have hlast:x.data.toList.getLast?=some x[j]:=by
    rw[List.getLast?_eq_getElem?,St.len_list,show x.size-1=j by omega];exact List.getElem?_eq_getElem (by rw[St.len_list];exact hjl)
   have y1:(0:Int)<(x.size:Int):=by omega
   have y3:(x.size:Int)-1=(j:Int):=by omega
   have y4:(j:Int)<(x.size:Int):=by omega
   have y5:(0:Int)<=(j:Int):=by omega
   have y6:(j:Int)<=(x.size:Int):=by omega
   have hja:j<=x.size-1:=by omega
   have hjb:x.size-1<=j:=by omega
   clear hj
   by_cases b2:x[j].toNat=47
   ·have e2:((x[j].toNat:Int)==47)=true:=by simp;omega
    obtain⟨y,hY⟩:∃ y,x.extract 0 j=y:=⟨_,rfl⟩;have hyl:y.data.toList=x.data.toList.dropLast:=by rw[<- hY,Lib.extract_data,List.dropLast_eq_take,St.len_list,show x.size-1=j by omega];simp
    have hys:y.size<=x.size:=by rw[<- hY];simp;omega
    have hb47:x.data.toList.getLast?=some 47:=by rw[hlast,show x[j]=47 from UInt8.toNat_inj.1 b2]
    have hI:St.tagI x.data.toList=if St.isContentL y.data.toList then some (4,y.data.toList) else none:=by
     unfold St.tagI;rw[if_neg b1,if_pos hb47,hyl]
    rw[hI] at hT;have hnm:=fun W=>rcontent_any y W (by omega)
    clear hp hI b1 b2 hyl hlast hb47;cases hb:St.isContentL y.data.toList
    all_goals
     rw[hb] at hT hnm;have HT:=hid hT;have HNM:=hid hnm;clear hT hnm hb;go_enter Tryz.func137,Tryz.ntmps137;go_wp2_with fail;refine(HFD.out _).mono ?_;rintro e w' ⟨rfl,rfl⟩;go_wp2_with fail;refine(HP.out _).mono ?_;rintro e w' ⟨rfl,rfl⟩;go_wp2_with fail;refine(HNM.out _).mono ?_;rintro e w' ⟨rfl,rfl⟩;go_wp2
    ·refine bodyPost_ret (v:=elV none) (by simp[results,Tryz.results137,go_sem,elV]) rfl ⟨?_,(by apply_rules[uUe,uUa,uUb,uUc,uUd])⟩
     rw[HT.out];rfl
    ·refine bodyPost_ret (v:=.tuple #[.agg #[.int .i64 4,.string y,.int .i64 0],.int .i64 ((m:Int)+1+1)]) (by simp[results,Tryz.results137,go_sem]) rfl ⟨?_,(by apply_rules[uUe,uUa,uUb,uUc,uUd])⟩
     rw[HT.out];simp only[if_true,Option.map_some,elV,itv,ba_eta];rw[show (((m+2:Nat):Int))=(m:Int)+1+1 by omega]
   ·have e2:((x[j].toNat:Int)==47)=false:=by simp;omega
    have hb47:x.data.toList.getLast? ≠ some 47:=by rw[hlast];intro e;apply b2;rw[Option.some.inj e];rfl
    have hI:St.tagI x.data.toList=if St.isContentL x.data.toList then some (2,x.data.toList) else none:=by
     unfold St.tagI;rw[if_neg b1,if_neg hb47]
    rw[hI] at hT;have hnm:=fun W=>rcontent_any x W (by omega)
    clear hp hI b1 b2 hlast hb47;cases hb:St.isContentL x.data.toList
    all_goals
     rw[hb] at hT hnm;have HT:=hid hT;have HNM:=hid hnm;clear hT hnm hb;go_enter Tryz.func137,Tryz.ntmps137;go_wp2_with fail;refine(HFD.out _).mono ?_;rintro e w' ⟨rfl,rfl⟩;go_wp2_with fail;refine(HP.out _).mono ?_;rintro e w' ⟨rfl,rfl⟩;go_wp2_with fail;refine(HNM.out _).mono ?_;rintro e w' ⟨rfl,rfl⟩;go_wp2
    ·refine bodyPost_ret (v:=elV none) (by simp[results,Tryz.results137,go_sem,elV]) rfl ⟨?_,(by apply_rules[uUe,uUa,uUb,uUc,uUd])⟩
     rw[HT.out];rfl
    ·refine bodyPost_ret (v:=.tuple #[.agg #[.int .i64 2,.string x,.int .i64 0],.int .i64 ((m:Int)+1+1)]) (by simp[results,Tryz.results137,go_sem]) rfl ⟨?_,(by apply_rules[uUe,uUa,uUb,uUc,uUd])⟩
     rw[HT.out];simp only[if_true,Option.map_some,elV,itv,ba_eta];rw[show (((m+2:Nat):Int))=(m:Int)+1+1 by omega]
end Go.Proofs.YthoemdibbldndaaGreatDoor
