/- The contracts of markup's name, isBlock, limit, reference and tag: what they give is. -/
import Derived.Test.YthoemdibbldndaaGreatDoorGI
import Derived.Deep.RegionLaw
import Derived.RegionTactic
set_option linter.all false
set_option maxHeartbeats 0
open Go.Value renaming int->UM,string->UN,bool->UP,tuple->UR
open Go.Ending renaming returned->UU
namespace Go.Proofs.YthoemdibbldndaaGreatDoor
open Go.RowKit
theorem pj(t:List UInt8)(w:World)(hs:t.length<=4611686018427387904):Calls Tryz.prog 129 #[UN ⟨t.toArray⟩] w λe w'=>e=UU (UN ⟨(St.nameOf t).toArray⟩)/\ac w w':=by
 have HC:=aa (sf ⟨t.toArray⟩ w (by show t.toArray.size<=_;simpa using hs));go_enter Tryz.func129,Tryz.ntmps129;go_wp2_with fail;refine HC.out.mono ?_;rintro e w' ⟨x,y,f,rfl,hx,hu⟩;have HX:=aa (show x=⟨(St.nameOf t).toArray⟩by rw[<-be x,hx.1]);have HU:=aa hu;clear hu hx;go_wp2;go_ret;exact⟨by rw[HX.out];rfl,HU.out⟩
theorem lQ(s:ByteArray)(w:World):Calls Tryz.prog 128 #[UN s] w λe w'=>e=UU (UP (St.bu s.1.1))/\w=w':=by
 have h1:=jw s [112];have h2:=jw s [104];have h3:=jw s [108,105];have h4:=jw s [116,100];have h5:=jw s [116,105,116,108,101]
 have hr:St.bu s.1.1=(decide (s.1.1=[112]) || (decide (s.1.1=[104]) || (decide (s.1.1=[108,105]) || (decide (s.1.1=[116,100]) || decide (s.1.1=[116,105,116,108,101]))))):=by
  unfold St.bu;simp only[Bool.decide_or]
 rw[hr];generalize decide (s.1.1=[112])=b1 at h1 |-;generalize decide (s.1.1=[104])=b2 at h2 |-;generalize decide (s.1.1=[108,105])=b3 at h3 |-;generalize decide (s.1.1=[116,100])=b4 at h4 |-;generalize decide (s.1.1=[116,105,116,108,101])=b5 at h5 |-;clear hr;cases b1
 ·cases b2
  ·cases b3
   ·cases b4
    ·cases b5
     ·go_enter Tryz.func128,Tryz.ntmps128;go_wp2;go_ret;exact⟨by simp,rfl⟩
     go_enter Tryz.func128,Tryz.ntmps128;go_wp2;go_ret;exact⟨by simp,rfl⟩
    go_enter Tryz.func128,Tryz.ntmps128;go_wp2;go_ret;exact⟨by simp,rfl⟩
   go_enter Tryz.func128,Tryz.ntmps128;go_wp2;go_ret;exact⟨by simp,rfl⟩
  go_enter Tryz.func128,Tryz.ntmps128;go_wp2;go_ret;exact⟨by simp,rfl⟩
 go_enter Tryz.func128,Tryz.ntmps128;go_wp2;go_ret;exact⟨by simp,rfl⟩
def ic(b:Bool):Int:=if b then 0 else 3
theorem j8(b:Bool)(w:World):Calls Tryz.prog 200 #[UP b] w λe w'=>e=UU (UM .i64 (ic b))/\w=w':=by
 cases b
 ·go_enter Tryz.func200,Tryz.ntmps200;go_wp2;go_ret;exact⟨rfl,rfl⟩
 go_enter Tryz.func200,Tryz.ntmps200;go_wp2;go_ret;exact⟨rfl,rfl⟩
theorem Mp(s t:ByteArray)(w:World)(hs:s.size<=9223372036854775807)(ht:t.size<=9223372036854775807):Calls Tryz.prog 192 #[UN s,UN t] w λe w'=>e=UU (UP (preB t s))/\w=w':=by
 by_cases h:t.size<=s.size
 ·have z:(t.size:Int)<=(s.size:Int):=by omega
  go_enter Tryz.func192,Tryz.ntmps192;go_wp2;go_ret;refine⟨aD ?_,rfl⟩;unfold preB;rw[Lib.toList_data,Lib.toList_data,Lib.extract_data,<-St.ms];simp
 have z:¬(t.size:Int)<=(s.size:Int):=by omega
 have H:=aa h;clear h;go_enter Tryz.func192,Tryz.ntmps192;go_wp2;go_ret;have hz:preB t s=false:=St.uI _ _ (by have:=H.out;simp;omega);exact⟨aD hz.symm,rfl⟩
theorem iX(s t:ByteArray)(w:World)(hs:s.size<=9223372036854775807)(ht:t.size<=9223372036854775807):Calls Tryz.prog 165 #[UN s,UN t] w λe w'=>e=UU (UP (preB t s))/\w=w':=by
 have H:=aa (Mp s t w hs ht);go_enter Tryz.func165,Tryz.ntmps165;go_wp2_with fail;refine H.out.mono ?_;rintro e w' ⟨rfl,rfl⟩;go_wp2;go_ret;exact⟨rfl,rfl⟩
def qv(s:ByteArray):Bool:=decide (s.1.1.getLast?=some 47)
theorem KK(s:ByteArray)(h:1<=s.size):(s.extract (s.size-1) s.size).toList=[47] ↔ s.1.1.getLast?=some 47:=by
 rw[Lib.toList_data,Lib.extract_data,List.take_of_length_le (by simp)];have hl:s.1.1.length=s.size:=St.aC s;rcases List.eq_nil_or_concat s.1.1 with e|⟨a,b,e⟩
 ·rw[e]at hl;simp at hl;omega
 rw[e]at hl |-;simp only[List.concat_eq_append]at hl |-;rw[List.length_append,List.length_singleton]at hl;rw[List.drop_append,List.drop_of_length_le (by omega),show s.size-1-a.length=0 by omega];simp
theorem Mq(s:ByteArray)(w:World)(hs:s.size<=9223372036854775807):Calls Tryz.prog 211 #[UN s,UN ⟨#[47]⟩] w λe w'=>e=UU (UP (qv s))/\w=w':=by
 by_cases h:1<=s.size
 ·have z:(1:Int)<=(s.size:Int):=by omega
  have ow:=aa (KK s h);have hw:IntKind.i64.wrap ((s.size:Int)-1)=((s.size-1:Nat):Int):=by rw[IntWalk.i64_in _ (by omega)];omega
  have hw2:(s.size:Int)-1=((s.size-1:Nat):Int):=by omega
  go_enter Tryz.func211,Tryz.ntmps211;go_wp2;go_ret;refine⟨aD ?_,rfl⟩;unfold qv;rw[Bool.eq_iff_iff,beq_iff_eq,decide_eq_true_iff];exact ow.out
 have z:¬(1:Int)<=(s.size:Int):=by omega
 have hz:qv s=false:=by
  unfold qv;have:s.1.1=[]:=List.eq_nil_of_length_eq_zero (by rw[St.aC];omega)
  rw[this];rfl
 rw[hz];clear h hz;go_enter Tryz.func211,Tryz.ntmps211;go_wp2;go_ret;exact⟨rfl,rfl⟩
theorem EX(s:ByteArray)(w:World)(hs:s.size<=9223372036854775807):Calls Tryz.prog 193 #[UN s,UN ⟨#[47]⟩] w λe w'=>e=UU (UP (qv s))/\w=w':=by
 have H:=aa (Mq s w hs);go_enter Tryz.func193,Tryz.ntmps193;go_wp2_with fail;refine H.out.mono ?_;rintro e w' ⟨rfl,rfl⟩;go_wp2;go_ret;exact⟨rfl,rfl⟩
def FG(l:List UInt8):Value:=match St.rp l with
 | some (_,t,n)=>UR #[UM .u8 ((t.getD 0 0).toNat:Int),UM .i64 n,UP true]
 | none=>UR #[UM .u8 0,UM .i64 0,UP false]
theorem Kk(s:ByteArray)(w:World)(hs:s.size<=9223372036854775807):Calls Tryz.prog 199 #[UN s] w λe w'=>e=UU (FG s.1.1)/\w=w':=by
 have h1:=λW=>iX s ⟨#[38,108,116,59]⟩ W hs (by show 4<=_;omega)
 have h2:=λW=>iX s ⟨#[38,103,116,59]⟩ W hs (by show 4<=_;omega)
 have h3:=λW=>iX s ⟨#[38,97,109,112,59]⟩ W hs (by show 5<=_;omega)
 have h4:=λW=>iX s ⟨#[38,108,98,59]⟩ W hs (by show 4<=_;omega)
 have h5:=λW=>iX s ⟨#[38,114,98,59]⟩ W hs (by show 4<=_;omega)
 have hv:FG s.1.1=if preB ⟨#[38,108,116,59]⟩ s then UR #[UM .u8 60,UM .i64 4,UP true]else if preB ⟨#[38,103,116,59]⟩ s then UR #[UM .u8 62,UM .i64 4,UP true]else if preB ⟨#[38,97,109,112,59]⟩ s then UR #[UM .u8 38,UM .i64 5,UP true]else if preB ⟨#[38,108,98,59]⟩ s then UR #[UM .u8 123,UM .i64 4,UP true]else if preB ⟨#[38,114,98,59]⟩ s then UR #[UM .u8 125,UM .i64 4,UP true]else UR #[UM .u8 0,UM .i64 0,UP false]:=by
  unfold FG St.rp
  show(match (if preB ⟨#[38,108,116,59]⟩ s=true then _ else _:St.El)with|some (_,t,n)=>_|none=>_)=_
  cases preB ⟨#[38,108,116,59]⟩ s
  ·show(match (if preB ⟨#[38,103,116,59]⟩ s=true then _ else _:St.El)with|some (_,t,n)=>_|none=>_)=_
   cases preB ⟨#[38,103,116,59]⟩ s
   ·show(match (if preB ⟨#[38,97,109,112,59]⟩ s=true then _ else _:St.El)with|some (_,t,n)=>_|none=>_)=_
    cases preB ⟨#[38,97,109,112,59]⟩ s
    ·show(match (if preB ⟨#[38,108,98,59]⟩ s=true then _ else _:St.El)with|some (_,t,n)=>_|none=>_)=_
     cases preB ⟨#[38,108,98,59]⟩ s
     ·show(match (if preB ⟨#[38,114,98,59]⟩ s=true then _ else _:St.El)with|some (_,t,n)=>_|none=>_)=_
      cases preB ⟨#[38,114,98,59]⟩ s<;>rfl
     rfl
    rfl
   rfl
  rfl
 rw[hv];generalize preB ⟨#[38,108,116,59]⟩ s=b1 at h1 |-;generalize preB ⟨#[38,103,116,59]⟩ s=b2 at h2 |-;generalize preB ⟨#[38,97,109,112,59]⟩ s=b3 at h3 |-;generalize preB ⟨#[38,108,98,59]⟩ s=b4 at h4 |-;generalize preB ⟨#[38,114,98,59]⟩ s=b5 at h5 |-;have H1:=aa h1;have H2:=aa h2;have H3:=aa h3;have H4:=aa h4;have H5:=aa h5;clear hv h1 h2 h3 h4 h5;cases b1;rotate_left 1
 ·go_enter Tryz.func199,Tryz.ntmps199;go_wp2_with fail;refine(H1.out _).mono ?_;rintro e w' ⟨rfl,rfl⟩;go_wp2;go_ret3;exact⟨rfl,rfl⟩
 cases b2;rotate_left 1
 ·go_enter Tryz.func199,Tryz.ntmps199;go_wp2_with fail;refine(H1.out _).mono ?_;rintro e w' ⟨rfl,rfl⟩;go_wp2_with fail;refine(H2.out _).mono ?_;rintro e w' ⟨rfl,rfl⟩;go_wp2;go_ret3;exact⟨rfl,rfl⟩
 cases b3;rotate_left 1
 ·go_enter Tryz.func199,Tryz.ntmps199;go_wp2_with fail;refine(H1.out _).mono ?_;rintro e w' ⟨rfl,rfl⟩;go_wp2_with fail;refine(H2.out _).mono ?_;rintro e w' ⟨rfl,rfl⟩;go_wp2_with fail;refine(H3.out _).mono ?_;rintro e w' ⟨rfl,rfl⟩;go_wp2;go_ret3;exact⟨rfl,rfl⟩
 cases b4;rotate_left 1
 ·go_enter Tryz.func199,Tryz.ntmps199;go_wp2_with fail;refine(H1.out _).mono ?_;rintro e w' ⟨rfl,rfl⟩;go_wp2_with fail;refine(H2.out _).mono ?_;rintro e w' ⟨rfl,rfl⟩;go_wp2_with fail;refine(H3.out _).mono ?_;rintro e w' ⟨rfl,rfl⟩;go_wp2_with fail;refine(H4.out _).mono ?_;rintro e w' ⟨rfl,rfl⟩;go_wp2;go_ret3;exact⟨rfl,rfl⟩
 cases b5
 all_goals
  go_enter Tryz.func199,Tryz.ntmps199;go_wp2_with fail;refine(H1.out _).mono ?_;rintro e w' ⟨rfl,rfl⟩;go_wp2_with fail;refine(H2.out _).mono ?_;rintro e w' ⟨rfl,rfl⟩;go_wp2_with fail;refine(H3.out _).mono ?_;rintro e w' ⟨rfl,rfl⟩;go_wp2_with fail;refine(H4.out _).mono ?_;rintro e w' ⟨rfl,rfl⟩;go_wp2_with fail;refine(H5.out _).mono ?_;rintro e w' ⟨rfl,rfl⟩;go_wp2;go_ret3;exact⟨rfl,rfl⟩
