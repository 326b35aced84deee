/- The contracts of markup's name, isBlock, limit, reference and tag: what they give is. -/
import Derived.Test.YtcfhfdphoidaeaaGreatDoorGI
import Derived.Deep.RegionLaw
import Derived.RegionTactic
set_option linter.unusedVariables false
set_option linter.unusedSimpArgs false
set_option maxHeartbeats 12800000
namespace Go.Proofs.YtcfhfdphoidaeaaGreatDoor
open Go.RowKit
theorem mname_any(t:List UInt8)(w:World)(hs:t.length<=4611686018427387904):Calls Tryz.prog 178 #[.string ⟨t.toArray⟩] w fun e w'=>e=.returned (.string ⟨(St.nameOf t).toArray⟩)/\Und w w':=by
 have HC:=hid (cutsp_any ⟨t.toArray⟩ w (by show t.toArray.size<=_;simpa using hs));go_enter Tryz.func178,Tryz.ntmps178;go_wp2_with fail;refine HC.out.mono ?_;rintro e w' ⟨x,y,f,rfl,hx,hu⟩;have HX:=hid (show x=⟨(St.nameOf t).toArray⟩ by rw[<- ba_eta x,hx.1]);have HU:=hid hu;clear hu hx;go_wp2;go_ret;exact⟨by rw[HX.out];rfl,HU.out⟩
theorem misblock_any(s:ByteArray)(w:World):Calls Tryz.prog 177 #[.string s] w fun e w'=>e=.returned (.bool (St.blockL s.data.toList))/\w=w':=by
 have h1:=bl_eq s [112];have h2:=bl_eq s [104];have h3:=bl_eq s [108,105];have h4:=bl_eq s [116,100];have h5:=bl_eq s [116,105,116,108,101]
 have hr:St.blockL s.data.toList=(decide (s.data.toList=[112]) || (decide (s.data.toList=[104]) || (decide (s.data.toList=[108,105]) || (decide (s.data.toList=[116,100]) || decide (s.data.toList=[116,105,116,108,101]))))):=by
  unfold St.blockL;simp only[Bool.decide_or]
 rw[hr];generalize decide (s.data.toList=[112])=b1 at h1 ⊢;generalize decide (s.data.toList=[104])=b2 at h2 ⊢;generalize decide (s.data.toList=[108,105])=b3 at h3 ⊢;generalize decide (s.data.toList=[116,100])=b4 at h4 ⊢;generalize decide (s.data.toList=[116,105,116,108,101])=b5 at h5 ⊢;clear hr;cases b1
 ·cases b2
  ·cases b3
   ·cases b4
    ·cases b5
     ·go_enter Tryz.func177,Tryz.ntmps177
      go_wp2;go_ret;exact⟨by simp,rfl⟩
     ·go_enter Tryz.func177,Tryz.ntmps177
      go_wp2;go_ret;exact⟨by simp,rfl⟩
    ·go_enter Tryz.func177,Tryz.ntmps177
     go_wp2;go_ret;exact⟨by simp,rfl⟩
   ·go_enter Tryz.func177,Tryz.ntmps177
    go_wp2;go_ret;exact⟨by simp,rfl⟩
  ·go_enter Tryz.func177,Tryz.ntmps177
   go_wp2;go_ret;exact⟨by simp,rfl⟩
 ·go_enter Tryz.func177,Tryz.ntmps177
  go_wp2;go_ret;exact⟨by simp,rfl⟩
def limE(b:Bool):Int:=if b then 0 else 3
theorem mlimit_any(b:Bool)(w:World):Calls Tryz.prog 246 #[.bool b] w fun e w'=>e=.returned (.int .i64 (limE b))/\w=w':=by
 cases b
 ·go_enter Tryz.func246,Tryz.ntmps246
  go_wp2;go_ret;exact⟨rfl,rfl⟩
 ·go_enter Tryz.func246,Tryz.ntmps246
  go_wp2;go_ret;exact⟨rfl,rfl⟩
theorem hasPre0(s t:ByteArray)(w:World)(hs:s.size<=9223372036854775807)(ht:t.size<=9223372036854775807):Calls Tryz.prog 235 #[.string s,.string t] w fun e w'=>e=.returned (.bool (preB t s))/\w=w':=by
 by_cases h:t.size<=s.size
 ·have z:(t.size:Int)<=(s.size:Int):=by omega
  go_enter Tryz.func235,Tryz.ntmps235;go_wp2;go_ret;refine⟨ret_bool ?_,rfl⟩;unfold preB;rw[Lib.toList_data,Lib.toList_data,Lib.extract_data,<- St.pre_take];simp
 ·have z:¬ (t.size:Int)<=(s.size:Int):=by omega
  have H:=hid h;clear h;go_enter Tryz.func235,Tryz.ntmps235;go_wp2;go_ret;have hz:preB t s=false:=St.pre_long _ _ (by have:=H.out;simp;omega);exact⟨ret_bool hz.symm,rfl⟩
theorem hasPre_any(s t:ByteArray)(w:World)(hs:s.size<=9223372036854775807)(ht:t.size<=9223372036854775807):Calls Tryz.prog 208 #[.string s,.string t] w fun e w'=>e=.returned (.bool (preB t s))/\w=w':=by
 have H:=hid (hasPre0 s t w hs ht);go_enter Tryz.func208,Tryz.ntmps208;go_wp2_with fail;refine H.out.mono ?_;rintro e w' ⟨rfl,rfl⟩;go_wp2;go_ret;exact⟨rfl,rfl⟩
def slashB(s:ByteArray):Bool:=decide (s.data.toList.getLast?=some 47)
theorem slash_of(s:ByteArray)(h:1<=s.size):(s.extract (s.size-1) s.size).toList=[47] ↔ s.data.toList.getLast?=some 47:=by
 rw[Lib.toList_data,Lib.extract_data,List.take_of_length_le (by simp)];have hl:s.data.toList.length=s.size:=St.len_list s;rcases List.eq_nil_or_concat s.data.toList with e|⟨a,b,e⟩
 ·rw[e] at hl;simp at hl;omega
 ·rw[e] at hl ⊢
  simp only[List.concat_eq_append] at hl ⊢;rw[List.length_append,List.length_singleton] at hl;rw[List.drop_append,List.drop_of_length_le (by omega),show s.size-1-a.length=0 by omega];simp
theorem hasSuf0(s:ByteArray)(w:World)(hs:s.size<=9223372036854775807):Calls Tryz.prog 255 #[.string s,.string ⟨#[47]⟩] w fun e w'=>e=.returned (.bool (slashB s))/\w=w':=by
 by_cases h:1<=s.size
 ·have z:(1:Int)<=(s.size:Int):=by omega
  have hso:=hid (slash_of s h);have hw:IntKind.i64.wrap ((s.size:Int)-1)=((s.size-1:Nat):Int):=by rw[IntWalk.i64_in _ (by omega)];omega
  have hw2:(s.size:Int)-1=((s.size-1:Nat):Int):=by omega
  go_enter Tryz.func255,Tryz.ntmps255;go_wp2;go_ret;refine⟨ret_bool ?_,rfl⟩;unfold slashB;rw[Bool.eq_iff_iff,beq_iff_eq,decide_eq_true_iff];exact hso.out
 ·have z:¬ (1:Int)<=(s.size:Int):=by omega
  have hz:slashB s=false:=by
   unfold slashB;have:s.data.toList=[]:=List.eq_nil_of_length_eq_zero (by rw[St.len_list];omega)
   rw[this];rfl
  rw[hz];clear h hz;go_enter Tryz.func255,Tryz.ntmps255;go_wp2;go_ret;exact⟨rfl,rfl⟩
theorem hasSuf_any(s:ByteArray)(w:World)(hs:s.size<=9223372036854775807):Calls Tryz.prog 225 #[.string s,.string ⟨#[47]⟩] w fun e w'=>e=.returned (.bool (slashB s))/\w=w':=by
 have H:=hid (hasSuf0 s w hs);go_enter Tryz.func225,Tryz.ntmps225;go_wp2_with fail;refine H.out.mono ?_;rintro e w' ⟨rfl,rfl⟩;go_wp2;go_ret;exact⟨rfl,rfl⟩
def refV(l:List UInt8):Value:=match St.refL l with
 | some (_,t,n)=>.tuple #[.int .u8 ((t.getD 0 0).toNat:Int),.int .i64 n,.bool true]
 | none=>.tuple #[.int .u8 0,.int .i64 0,.bool false]
theorem mref_any(s:ByteArray)(w:World)(hs:s.size<=9223372036854775807):Calls Tryz.prog 245 #[.string s] w fun e w'=>e=.returned (refV s.data.toList)/\w=w':=by
 have h1:=fun W=>hasPre_any s ⟨#[38,108,116,59]⟩ W hs (by show 4<=_;omega)
 have h2:=fun W=>hasPre_any s ⟨#[38,103,116,59]⟩ W hs (by show 4<=_;omega)
 have h3:=fun W=>hasPre_any s ⟨#[38,97,109,112,59]⟩ W hs (by show 5<=_;omega)
 have h4:=fun W=>hasPre_any s ⟨#[38,108,98,59]⟩ W hs (by show 4<=_;omega)
 have h5:=fun W=>hasPre_any s ⟨#[38,114,98,59]⟩ W hs (by show 4<=_;omega)
 have hv:refV s.data.toList=if preB ⟨#[38,108,116,59]⟩ s then .tuple #[.int .u8 60,.int .i64 4,.bool true] else if preB ⟨#[38,103,116,59]⟩ s then .tuple #[.int .u8 62,.int .i64 4,.bool true] else if preB ⟨#[38,97,109,112,59]⟩ s then .tuple #[.int .u8 38,.int .i64 5,.bool true] else if preB ⟨#[38,108,98,59]⟩ s then .tuple #[.int .u8 123,.int .i64 4,.bool true] else if preB ⟨#[38,114,98,59]⟩ s then .tuple #[.int .u8 125,.int .i64 4,.bool true] else .tuple #[.int .u8 0,.int .i64 0,.bool false]:=by
  unfold refV St.refL
  show (match (if preB ⟨#[38,108,116,59]⟩ s=true then _ else _:St.El) with|some (_,t,n)=>_|none=>_)=_
  cases preB ⟨#[38,108,116,59]⟩ s
  ·show (match (if preB ⟨#[38,103,116,59]⟩ s=true then _ else _:St.El) with|some (_,t,n)=>_|none=>_)=_
   cases preB ⟨#[38,103,116,59]⟩ s
   ·show (match (if preB ⟨#[38,97,109,112,59]⟩ s=true then _ else _:St.El) with|some (_,t,n)=>_|none=>_)=_
    cases preB ⟨#[38,97,109,112,59]⟩ s
    ·show (match (if preB ⟨#[38,108,98,59]⟩ s=true then _ else _:St.El) with|some (_,t,n)=>_|none=>_)=_
     cases preB ⟨#[38,108,98,59]⟩ s
     ·show (match (if preB ⟨#[38,114,98,59]⟩ s=true then _ else _:St.El) with|some (_,t,n)=>_|none=>_)=_
      cases preB ⟨#[38,114,98,59]⟩ s <;> rfl
     ·rfl
    ·rfl
   ·rfl
  ·rfl
 rw[hv];generalize preB ⟨#[38,108,116,59]⟩ s=b1 at h1 ⊢;generalize preB ⟨#[38,103,116,59]⟩ s=b2 at h2 ⊢;generalize preB ⟨#[38,97,109,112,59]⟩ s=b3 at h3 ⊢;generalize preB ⟨#[38,108,98,59]⟩ s=b4 at h4 ⊢;generalize preB ⟨#[38,114,98,59]⟩ s=b5 at h5 ⊢;have H1:=hid h1;have H2:=hid h2;have H3:=hid h3;have H4:=hid h4;have H5:=hid h5;clear hv h1 h2 h3 h4 h5;cases b1;rotate_left 1
 ·go_enter Tryz.func245,Tryz.ntmps245
  go_wp2_with fail;refine(H1.out _).mono ?_;rintro e w' ⟨rfl,rfl⟩;go_wp2;go_ret3;exact⟨rfl,rfl⟩
 cases b2;rotate_left 1
 ·go_enter Tryz.func245,Tryz.ntmps245
  go_wp2_with fail;refine(H1.out _).mono ?_;rintro e w' ⟨rfl,rfl⟩;go_wp2_with fail;refine(H2.out _).mono ?_;rintro e w' ⟨rfl,rfl⟩;go_wp2;go_ret3;exact⟨rfl,rfl⟩
 cases b3;rotate_left 1
 ·go_enter Tryz.func245,Tryz.ntmps245
  go_wp2_with fail;refine(H1.out _).mono ?_;rintro e w' ⟨rfl,rfl⟩;go_wp2_with fail;refine(H2.out _).mono ?_;rintro e w' ⟨rfl,rfl⟩;go_wp2_with fail;refine(H3.out _).mono ?_;rintro e w' ⟨rfl,rfl⟩;go_wp2;go_ret3;exact⟨rfl,rfl⟩
 cases b4;rotate_left 1
 ·go_enter Tryz.func245,Tryz.ntmps245
  go_wp2_with fail;refine(H1.out _).mono ?_;rintro e w' ⟨rfl,rfl⟩;go_wp2_with fail;refine(H2.out _).mono ?_;rintro e w' ⟨rfl,rfl⟩;go_wp2_with fail;refine(H3.out _).mono ?_;rintro e w' ⟨rfl,rfl⟩;go_wp2_with fail;refine(H4.out _).mono ?_;rintro e w' ⟨rfl,rfl⟩;go_wp2;go_ret3;exact⟨rfl,rfl⟩
 cases b5
 all_goals
  go_enter Tryz.func245,Tryz.ntmps245;go_wp2_with fail;refine(H1.out _).mono ?_;rintro e w' ⟨rfl,rfl⟩;go_wp2_with fail;refine(H2.out _).mono ?_;rintro e w' ⟨rfl,rfl⟩;go_wp2_with fail;refine(H3.out _).mono ?_;rintro e w' ⟨rfl,rfl⟩;go_wp2_with fail;refine(H4.out _).mono ?_;rintro e w' ⟨rfl,rfl⟩;go_wp2_with fail;refine(H5.out _).mono ?_;rintro e w' ⟨rfl,rfl⟩;go_wp2;go_ret3;exact⟨rfl,rfl⟩
end Go.Proofs.YtcfhfdphoidaeaaGreatDoor
