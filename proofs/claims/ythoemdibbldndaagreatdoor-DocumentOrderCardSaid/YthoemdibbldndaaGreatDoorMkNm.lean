/- The contracts of markup's name, isBlock, limit, reference and tag: what they give is. -/
import Derived.Test.YthoemdibbldndaaGreatDoorGI
import Derived.Deep.RegionLaw
import Derived.RegionTactic
set_option linter.all false
set_option maxHeartbeats 0
open Go.Value renaming int->Yp,string->Yq,bool->Ys,tuple->Yu
open Go.Ending renaming returned->Yx
namespace Go.Proofs.YthoemdibbldndaaGreatDoor
open Go.RowKit
theorem qk(t:List UInt8)(w:World)(hs:t.length<=4611686018427387904):Calls Tryz.prog 129 #[Yq ⟨t.toArray⟩] w λe w'=>e=Yx (Yq ⟨(St.nameOf t).toArray⟩)/\ac w w':=by
 have HC:=aa (tS ⟨t.toArray⟩ w (by show t.toArray.size<=_;simpa using hs));go_enter Tryz.func129,Tryz.ntmps129;go_wp2_with fail;refine HC.out.mono ?_;rintro e w' ⟨x,y,f,rfl,hx,hu⟩;have HX:=aa (show x=⟨(St.nameOf t).toArray⟩by rw[<-bo x,hx.1]);have HU:=aa hu;clear hu hx;go_wp2;go_ret;exact⟨by rw[HX.out];rfl,HU.out⟩
theorem mw(s:ByteArray)(w:World):Calls Tryz.prog 128 #[Yq s] w λe w'=>e=Yx (Ys (St.bE s.1.1))/\w=w':=by
 have h1:=jV s [112];have h2:=jV s [104];have h3:=jV s [108,105];have h4:=jV s [116,100];have h5:=jV s [116,105,116,108,101]
 have hr:St.bE s.1.1=(decide (s.1.1=[112]) || (decide (s.1.1=[104]) || (decide (s.1.1=[108,105]) || (decide (s.1.1=[116,100]) || decide (s.1.1=[116,105,116,108,101]))))):=by
  unfold St.bE;simp only[Bool.decide_or]
 rw[hr];generalize decide (s.1.1=[112])=b1 at h1 |-;generalize decide (s.1.1=[104])=b2 at h2 |-;generalize decide (s.1.1=[108,105])=b3 at h3 |-;generalize decide (s.1.1=[116,100])=b4 at h4 |-;generalize decide (s.1.1=[116,105,116,108,101])=b5 at h5 |-;clear hr;cases b1
 ·cases b2
  ·cases b3
   ·cases b4
    ·cases b5
     ·go_enter Tryz.func128,Tryz.ntmps128;go_wp2;go_ret;exact⟨by simp,rfl⟩
     go_enter Tryz.func128,Tryz.ntmps128;go_wp2;go_ret;exact⟨by simp,rfl⟩
    go_enter Tryz.func128,Tryz.ntmps128;go_wp2;go_ret;exact⟨by simp,rfl⟩
   go_enter Tryz.func128,Tryz.ntmps128;go_wp2;go_ret;exact⟨by simp,rfl⟩
  go_enter Tryz.func128,Tryz.ntmps128;go_wp2;go_ret;exact⟨by simp,rfl⟩
 go_enter Tryz.func128,Tryz.ntmps128;go_wp2;go_ret;exact⟨by simp,rfl⟩
def iD(b:Bool):Int:=if b then 0 else 3
theorem kK(b:Bool)(w:World):Calls Tryz.prog 200 #[Ys b] w λe w'=>e=Yx (Yp .i64 (iD b))/\w=w':=by
 cases b
 ·go_enter Tryz.func200,Tryz.ntmps200;go_wp2;go_ret;exact⟨rfl,rfl⟩
 go_enter Tryz.func200,Tryz.ntmps200;go_wp2;go_ret;exact⟨rfl,rfl⟩
theorem Pj(s t:ByteArray)(w:World)(hs:s.size<=9223372036854775807)(ht:t.size<=9223372036854775807):Calls Tryz.prog 192 #[Yq s,Yq t] w λe w'=>e=Yx (Ys (preB t s))/\w=w':=by
 by_cases h:t.size<=s.size
 ·have z:(t.size:Int)<=(s.size:Int):=by omega
  go_enter Tryz.func192,Tryz.ntmps192;go_wp2;go_ret;refine⟨az ?_,rfl⟩;unfold preB;rw[Lib.toList_data,Lib.toList_data,Lib.extract_data,<-St.ng];simp
 have z:¬(t.size:Int)<=(s.size:Int):=by omega
 have H:=aa h;clear h;go_enter Tryz.func192,Tryz.ntmps192;go_wp2;go_ret;have hz:preB t s=false:=St.wJ _ _ (by have:=H.out;simp;omega);exact⟨az hz.symm,rfl⟩
theorem jt(s t:ByteArray)(w:World)(hs:s.size<=9223372036854775807)(ht:t.size<=9223372036854775807):Calls Tryz.prog 165 #[Yq s,Yq t] w λe w'=>e=Yx (Ys (preB t s))/\w=w':=by
 have H:=aa (Pj s t w hs ht);go_enter Tryz.func165,Tryz.ntmps165;go_wp2_with fail;refine H.out.mono ?_;rintro e w' ⟨rfl,rfl⟩;go_wp2;go_ret;exact⟨rfl,rfl⟩
def rJ(s:ByteArray):Bool:=decide (s.1.1.getLast?=some 47)
theorem NE(s:ByteArray)(h:1<=s.size):(s.extract (s.size-1) s.size).toList=[47] ↔ s.1.1.getLast?=some 47:=by
 rw[Lib.toList_data,Lib.extract_data,List.take_of_length_le (by simp)];have hl:s.1.1.length=s.size:=St.aB s;rcases List.eq_nil_or_concat s.1.1 with e|⟨a,b,e⟩
 ·rw[e]at hl;simp at hl;omega
 rw[e]at hl |-;simp only[List.concat_eq_append]at hl |-;rw[List.length_append,List.length_singleton]at hl;rw[List.drop_append,List.drop_of_length_le (by omega),show s.size-1-a.length=0 by omega];simp
theorem Pk(s:ByteArray)(w:World)(hs:s.size<=9223372036854775807):Calls Tryz.prog 211 #[Yq s,Yq ⟨#[47]⟩] w λe w'=>e=Yx (Ys (rJ s))/\w=w':=by
 by_cases h:1<=s.size
 ·have z:(1:Int)<=(s.size:Int):=by omega
  have pq:=aa (NE s h);have hw:IntKind.i64.wrap ((s.size:Int)-1)=((s.size-1:Nat):Int):=by rw[IntWalk.i64_in _ (by omega)];omega
  have hw2:(s.size:Int)-1=((s.size-1:Nat):Int):=by omega
  go_enter Tryz.func211,Tryz.ntmps211;go_wp2;go_ret;refine⟨az ?_,rfl⟩;unfold rJ;rw[Bool.eq_iff_iff,beq_iff_eq,decide_eq_true_iff];exact pq.out
 have z:¬(1:Int)<=(s.size:Int):=by omega
 have hz:rJ s=false:=by
  unfold rJ;have:s.1.1=[]:=List.eq_nil_of_length_eq_zero (by rw[St.aB];omega)
  rw[this];rfl
 rw[hz];clear h hz;go_enter Tryz.func211,Tryz.ntmps211;go_wp2;go_ret;exact⟨rfl,rfl⟩
theorem Ig(s:ByteArray)(w:World)(hs:s.size<=9223372036854775807):Calls Tryz.prog 193 #[Yq s,Yq ⟨#[47]⟩] w λe w'=>e=Yx (Ys (rJ s))/\w=w':=by
 have H:=aa (Pk s w hs);go_enter Tryz.func193,Tryz.ntmps193;go_wp2_with fail;refine H.out.mono ?_;rintro e w' ⟨rfl,rfl⟩;go_wp2;go_ret;exact⟨rfl,rfl⟩
def IZ(l:List UInt8):Value:=match St.sG l with
 | some (_,t,n)=>Yu #[Yp .u8 ((t.getD 0 0).toNat:Int),Yp .i64 n,Ys true]
 | none=>Yu #[Yp .u8 0,Yp .i64 0,Ys false]
theorem M9(s:ByteArray)(w:World)(hs:s.size<=9223372036854775807):Calls Tryz.prog 199 #[Yq s] w λe w'=>e=Yx (IZ s.1.1)/\w=w':=by
 have h1:=λW=>jt s ⟨#[38,108,116,59]⟩ W hs (by show 4<=_;omega)
 have h2:=λW=>jt s ⟨#[38,103,116,59]⟩ W hs (by show 4<=_;omega)
 have h3:=λW=>jt s ⟨#[38,97,109,112,59]⟩ W hs (by show 5<=_;omega)
 have h4:=λW=>jt s ⟨#[38,108,98,59]⟩ W hs (by show 4<=_;omega)
 have h5:=λW=>jt s ⟨#[38,114,98,59]⟩ W hs (by show 4<=_;omega)
 have hv:IZ s.1.1=if preB ⟨#[38,108,116,59]⟩ s then Yu #[Yp .u8 60,Yp .i64 4,Ys true]else if preB ⟨#[38,103,116,59]⟩ s then Yu #[Yp .u8 62,Yp .i64 4,Ys true]else if preB ⟨#[38,97,109,112,59]⟩ s then Yu #[Yp .u8 38,Yp .i64 5,Ys true]else if preB ⟨#[38,108,98,59]⟩ s then Yu #[Yp .u8 123,Yp .i64 4,Ys true]else if preB ⟨#[38,114,98,59]⟩ s then Yu #[Yp .u8 125,Yp .i64 4,Ys true]else Yu #[Yp .u8 0,Yp .i64 0,Ys false]:=by
  unfold IZ St.sG
  show(match (if preB ⟨#[38,108,116,59]⟩ s=true then _ else _:St.El)with|some (_,t,n)=>_|none=>_)=_
  cases preB ⟨#[38,108,116,59]⟩ s
  ·show(match (if preB ⟨#[38,103,116,59]⟩ s=true then _ else _:St.El)with|some (_,t,n)=>_|none=>_)=_
   cases preB ⟨#[38,103,116,59]⟩ s
   ·show(match (if preB ⟨#[38,97,109,112,59]⟩ s=true then _ else _:St.El)with|some (_,t,n)=>_|none=>_)=_
    cases preB ⟨#[38,97,109,112,59]⟩ s
    ·show(match (if preB ⟨#[38,108,98,59]⟩ s=true then _ else _:St.El)with|some (_,t,n)=>_|none=>_)=_
     cases preB ⟨#[38,108,98,59]⟩ s
     ·show(match (if preB ⟨#[38,114,98,59]⟩ s=true then _ else _:St.El)with|some (_,t,n)=>_|none=>_)=_
      cases preB ⟨#[38,114,98,59]⟩ s<;>rfl
     rfl
    rfl
   rfl
  rfl
 rw[hv];generalize preB ⟨#[38,108,116,59]⟩ s=b1 at h1 |-;generalize preB ⟨#[38,103,116,59]⟩ s=b2 at h2 |-;generalize preB ⟨#[38,97,109,112,59]⟩ s=b3 at h3 |-;generalize preB ⟨#[38,108,98,59]⟩ s=b4 at h4 |-;generalize preB ⟨#[38,114,98,59]⟩ s=b5 at h5 |-;have H1:=aa h1;have H2:=aa h2;have H3:=aa h3;have H4:=aa h4;have H5:=aa h5;clear hv h1 h2 h3 h4 h5;cases b1;rotate_left 1
 ·go_enter Tryz.func199,Tryz.ntmps199;go_wp2_with fail;refine(H1.out _).mono ?_;rintro e w' ⟨rfl,rfl⟩;go_wp2;go_ret3;exact⟨rfl,rfl⟩
 cases b2;rotate_left 1
 ·go_enter Tryz.func199,Tryz.ntmps199;go_wp2_with fail;refine(H1.out _).mono ?_;rintro e w' ⟨rfl,rfl⟩;go_wp2_with fail;refine(H2.out _).mono ?_;rintro e w' ⟨rfl,rfl⟩;go_wp2;go_ret3;exact⟨rfl,rfl⟩
 cases b3;rotate_left 1
 ·go_enter Tryz.func199,Tryz.ntmps199;go_wp2_with fail;refine(H1.out _).mono ?_;rintro e w' ⟨rfl,rfl⟩;go_wp2_with fail;refine(H2.out _).mono ?_;rintro e w' ⟨rfl,rfl⟩;go_wp2_with fail;refine(H3.out _).mono ?_;rintro e w' ⟨rfl,rfl⟩;go_wp2;go_ret3;exact⟨rfl,rfl⟩
 cases b4;rotate_left 1
 ·go_enter Tryz.func199,Tryz.ntmps199;go_wp2_with fail;refine(H1.out _).mono ?_;rintro e w' ⟨rfl,rfl⟩;go_wp2_with fail;refine(H2.out _).mono ?_;rintro e w' ⟨rfl,rfl⟩;go_wp2_with fail;refine(H3.out _).mono ?_;rintro e w' ⟨rfl,rfl⟩;go_wp2_with fail;refine(H4.out _).mono ?_;rintro e w' ⟨rfl,rfl⟩;go_wp2;go_ret3;exact⟨rfl,rfl⟩
 cases b5
 all_goals
  go_enter Tryz.func199,Tryz.ntmps199;go_wp2_with fail;refine(H1.out _).mono ?_;rintro e w' ⟨rfl,rfl⟩;go_wp2_with fail;refine(H2.out _).mono ?_;rintro e w' ⟨rfl,rfl⟩;go_wp2_with fail;refine(H3.out _).mono ?_;rintro e w' ⟨rfl,rfl⟩;go_wp2_with fail;refine(H4.out _).mono ?_;rintro e w' ⟨rfl,rfl⟩;go_wp2_with fail;refine(H5.out _).mono ?_;rintro e w' ⟨rfl,rfl⟩;go_wp2;go_ret3;exact⟨rfl,rfl⟩
