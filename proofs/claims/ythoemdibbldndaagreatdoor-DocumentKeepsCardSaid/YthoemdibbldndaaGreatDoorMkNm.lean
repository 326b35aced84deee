/- The contracts of markup's name, isBlock, limit, reference and tag: what they give is. -/
import Derived.Test.YthoemdibbldndaaGreatDoorGI
import Derived.Deep.RegionLaw
import Derived.RegionTactic
set_option linter.all false
set_option maxHeartbeats 0
open Go.Value renaming int->Yh,string->Yi,bool->Yk,tuple->Ym
open Go.Ending renaming returned->Yp
namespace Go.Proofs.YthoemdibbldndaaGreatDoor
open Go.RowKit
theorem p8(t:List UInt8)(w:World)(hs:t.length<=4611686018427387904):Calls Tryz.prog 129 #[Yi ⟨t.toArray⟩] w λe w'=>e=Yp (Yi ⟨(St.nameOf t).toArray⟩)/\ac w w':=by
 have HC:=aa (tp ⟨t.toArray⟩ w (by show t.toArray.size<=_;simpa using hs));go_enter Tryz.func129,Tryz.ntmps129;go_wp2_with fail;refine HC.out.mono ?_;rintro e w' ⟨x,y,f,rfl,hx,hu⟩;have HX:=aa (show x=⟨(St.nameOf t).toArray⟩by rw[<-bn x,hx.1]);have HU:=aa hu;clear hu hx;go_wp2;go_ret;exact⟨by rw[HX.out];rfl,HU.out⟩
theorem ms(s:ByteArray)(w:World):Calls Tryz.prog 128 #[Yi s] w λe w'=>e=Yp (Yk (St.bC s.1.1))/\w=w':=by
 have h1:=jR s [112];have h2:=jR s [104];have h3:=jR s [108,105];have h4:=jR s [116,100];have h5:=jR s [116,105,116,108,101]
 have hr:St.bC s.1.1=(decide (s.1.1=[112]) || (decide (s.1.1=[104]) || (decide (s.1.1=[108,105]) || (decide (s.1.1=[116,100]) || decide (s.1.1=[116,105,116,108,101]))))):=by
  unfold St.bC;simp only[Bool.decide_or]
 rw[hr];generalize decide (s.1.1=[112])=b1 at h1 |-;generalize decide (s.1.1=[104])=b2 at h2 |-;generalize decide (s.1.1=[108,105])=b3 at h3 |-;generalize decide (s.1.1=[116,100])=b4 at h4 |-;generalize decide (s.1.1=[116,105,116,108,101])=b5 at h5 |-;clear hr;cases b1
 ·cases b2
  ·cases b3
   ·cases b4
    ·cases b5
     ·go_enter Tryz.func128,Tryz.ntmps128;go_wp2;go_ret;exact⟨by simp,rfl⟩
     go_enter Tryz.func128,Tryz.ntmps128;go_wp2;go_ret;exact⟨by simp,rfl⟩
    go_enter Tryz.func128,Tryz.ntmps128;go_wp2;go_ret;exact⟨by simp,rfl⟩
   go_enter Tryz.func128,Tryz.ntmps128;go_wp2;go_ret;exact⟨by simp,rfl⟩
  go_enter Tryz.func128,Tryz.ntmps128;go_wp2;go_ret;exact⟨by simp,rfl⟩
 go_enter Tryz.func128,Tryz.ntmps128;go_wp2;go_ret;exact⟨by simp,rfl⟩
def iu(b:Bool):Int:=if b then 0 else 3
theorem kH(b:Bool)(w:World):Calls Tryz.prog 200 #[Yk b] w λe w'=>e=Yp (Yh .i64 (iu b))/\w=w':=by
 cases b
 ·go_enter Tryz.func200,Tryz.ntmps200;go_wp2;go_ret;exact⟨rfl,rfl⟩
 go_enter Tryz.func200,Tryz.ntmps200;go_wp2;go_ret;exact⟨rfl,rfl⟩
theorem OK(s t:ByteArray)(w:World)(hs:s.size<=9223372036854775807)(ht:t.size<=9223372036854775807):Calls Tryz.prog 192 #[Yi s,Yi t] w λe w'=>e=Yp (Yk (preB t s))/\w=w':=by
 by_cases h:t.size<=s.size
 ·have z:(t.size:Int)<=(s.size:Int):=by omega
  go_enter Tryz.func192,Tryz.ntmps192;go_wp2;go_ret;refine⟨az ?_,rfl⟩;unfold preB;rw[Lib.toList_data,Lib.toList_data,Lib.extract_data,<-St.nf];simp
 have z:¬(t.size:Int)<=(s.size:Int):=by omega
 have H:=aa h;clear h;go_enter Tryz.func192,Tryz.ntmps192;go_wp2;go_ret;have hz:preB t s=false:=St.vR _ _ (by have:=H.out;simp;omega);exact⟨az hz.symm,rfl⟩
theorem jm(s t:ByteArray)(w:World)(hs:s.size<=9223372036854775807)(ht:t.size<=9223372036854775807):Calls Tryz.prog 165 #[Yi s,Yi t] w λe w'=>e=Yp (Yk (preB t s))/\w=w':=by
 have H:=aa (OK s t w hs ht);go_enter Tryz.func165,Tryz.ntmps165;go_wp2_with fail;refine H.out.mono ?_;rintro e w' ⟨rfl,rfl⟩;go_wp2;go_ret;exact⟨rfl,rfl⟩
def rr(s:ByteArray):Bool:=decide (s.1.1.getLast?=some 47)
theorem MS(s:ByteArray)(h:1<=s.size):(s.extract (s.size-1) s.size).toList=[47] ↔ s.1.1.getLast?=some 47:=by
 rw[Lib.toList_data,Lib.extract_data,List.take_of_length_le (by simp)];have hl:s.1.1.length=s.size:=St.aC s;rcases List.eq_nil_or_concat s.1.1 with e|⟨a,b,e⟩
 ·rw[e]at hl;simp at hl;omega
 rw[e]at hl |-;simp only[List.concat_eq_append]at hl |-;rw[List.length_append,List.length_singleton]at hl;rw[List.drop_append,List.drop_of_length_le (by omega),show s.size-1-a.length=0 by omega];simp
theorem OL(s:ByteArray)(w:World)(hs:s.size<=9223372036854775807):Calls Tryz.prog 211 #[Yi s,Yi ⟨#[47]⟩] w λe w'=>e=Yp (Yk (rr s))/\w=w':=by
 by_cases h:1<=s.size
 ·have z:(1:Int)<=(s.size:Int):=by omega
  have ph:=aa (MS s h);have hw:IntKind.i64.wrap ((s.size:Int)-1)=((s.size-1:Nat):Int):=by rw[IntWalk.i64_in _ (by omega)];omega
  have hw2:(s.size:Int)-1=((s.size-1:Nat):Int):=by omega
  go_enter Tryz.func211,Tryz.ntmps211;go_wp2;go_ret;refine⟨az ?_,rfl⟩;unfold rr;rw[Bool.eq_iff_iff,beq_iff_eq,decide_eq_true_iff];exact ph.out
 have z:¬(1:Int)<=(s.size:Int):=by omega
 have hz:rr s=false:=by
  unfold rr;have:s.1.1=[]:=List.eq_nil_of_length_eq_zero (by rw[St.aC];omega)
  rw[this];rfl
 rw[hz];clear h hz;go_enter Tryz.func211,Tryz.ntmps211;go_wp2;go_ret;exact⟨rfl,rfl⟩
theorem GY(s:ByteArray)(w:World)(hs:s.size<=9223372036854775807):Calls Tryz.prog 193 #[Yi s,Yi ⟨#[47]⟩] w λe w'=>e=Yp (Yk (rr s))/\w=w':=by
 have H:=aa (OL s w hs);go_enter Tryz.func193,Tryz.ntmps193;go_wp2_with fail;refine H.out.mono ?_;rintro e w' ⟨rfl,rfl⟩;go_wp2;go_ret;exact⟨rfl,rfl⟩
def Ie(l:List UInt8):Value:=match St.sh l with
 | some (_,t,n)=>Ym #[Yh .u8 ((t.getD 0 0).toNat:Int),Yh .i64 n,Yk true]
 | none=>Ym #[Yh .u8 0,Yh .i64 0,Yk false]
theorem Mm(s:ByteArray)(w:World)(hs:s.size<=9223372036854775807):Calls Tryz.prog 199 #[Yi s] w λe w'=>e=Yp (Ie s.1.1)/\w=w':=by
 have h1:=λW=>jm s ⟨#[38,108,116,59]⟩ W hs (by show 4<=_;omega)
 have h2:=λW=>jm s ⟨#[38,103,116,59]⟩ W hs (by show 4<=_;omega)
 have h3:=λW=>jm s ⟨#[38,97,109,112,59]⟩ W hs (by show 5<=_;omega)
 have h4:=λW=>jm s ⟨#[38,108,98,59]⟩ W hs (by show 4<=_;omega)
 have h5:=λW=>jm s ⟨#[38,114,98,59]⟩ W hs (by show 4<=_;omega)
 have hv:Ie s.1.1=if preB ⟨#[38,108,116,59]⟩ s then Ym #[Yh .u8 60,Yh .i64 4,Yk true]else if preB ⟨#[38,103,116,59]⟩ s then Ym #[Yh .u8 62,Yh .i64 4,Yk true]else if preB ⟨#[38,97,109,112,59]⟩ s then Ym #[Yh .u8 38,Yh .i64 5,Yk true]else if preB ⟨#[38,108,98,59]⟩ s then Ym #[Yh .u8 123,Yh .i64 4,Yk true]else if preB ⟨#[38,114,98,59]⟩ s then Ym #[Yh .u8 125,Yh .i64 4,Yk true]else Ym #[Yh .u8 0,Yh .i64 0,Yk false]:=by
  unfold Ie St.sh
  show(match (if preB ⟨#[38,108,116,59]⟩ s=true then _ else _:St.El)with|some (_,t,n)=>_|none=>_)=_
  cases preB ⟨#[38,108,116,59]⟩ s
  ·show(match (if preB ⟨#[38,103,116,59]⟩ s=true then _ else _:St.El)with|some (_,t,n)=>_|none=>_)=_
   cases preB ⟨#[38,103,116,59]⟩ s
   ·show(match (if preB ⟨#[38,97,109,112,59]⟩ s=true then _ else _:St.El)with|some (_,t,n)=>_|none=>_)=_
    cases preB ⟨#[38,97,109,112,59]⟩ s
    ·show(match (if preB ⟨#[38,108,98,59]⟩ s=true then _ else _:St.El)with|some (_,t,n)=>_|none=>_)=_
     cases preB ⟨#[38,108,98,59]⟩ s
     ·show(match (if preB ⟨#[38,114,98,59]⟩ s=true then _ else _:St.El)with|some (_,t,n)=>_|none=>_)=_
      cases preB ⟨#[38,114,98,59]⟩ s<;>rfl
     rfl
    rfl
   rfl
  rfl
 rw[hv];generalize preB ⟨#[38,108,116,59]⟩ s=b1 at h1 |-;generalize preB ⟨#[38,103,116,59]⟩ s=b2 at h2 |-;generalize preB ⟨#[38,97,109,112,59]⟩ s=b3 at h3 |-;generalize preB ⟨#[38,108,98,59]⟩ s=b4 at h4 |-;generalize preB ⟨#[38,114,98,59]⟩ s=b5 at h5 |-;have H1:=aa h1;have H2:=aa h2;have H3:=aa h3;have H4:=aa h4;have H5:=aa h5;clear hv h1 h2 h3 h4 h5;cases b1;rotate_left 1
 ·go_enter Tryz.func199,Tryz.ntmps199;go_wp2_with fail;refine(H1.out _).mono ?_;rintro e w' ⟨rfl,rfl⟩;go_wp2;go_ret3;exact⟨rfl,rfl⟩
 cases b2;rotate_left 1
 ·go_enter Tryz.func199,Tryz.ntmps199;go_wp2_with fail;refine(H1.out _).mono ?_;rintro e w' ⟨rfl,rfl⟩;go_wp2_with fail;refine(H2.out _).mono ?_;rintro e w' ⟨rfl,rfl⟩;go_wp2;go_ret3;exact⟨rfl,rfl⟩
 cases b3;rotate_left 1
 ·go_enter Tryz.func199,Tryz.ntmps199;go_wp2_with fail;refine(H1.out _).mono ?_;rintro e w' ⟨rfl,rfl⟩;go_wp2_with fail;refine(H2.out _).mono ?_;rintro e w' ⟨rfl,rfl⟩;go_wp2_with fail;refine(H3.out _).mono ?_;rintro e w' ⟨rfl,rfl⟩;go_wp2;go_ret3;exact⟨rfl,rfl⟩
 cases b4;rotate_left 1
 ·go_enter Tryz.func199,Tryz.ntmps199;go_wp2_with fail;refine(H1.out _).mono ?_;rintro e w' ⟨rfl,rfl⟩;go_wp2_with fail;refine(H2.out _).mono ?_;rintro e w' ⟨rfl,rfl⟩;go_wp2_with fail;refine(H3.out _).mono ?_;rintro e w' ⟨rfl,rfl⟩;go_wp2_with fail;refine(H4.out _).mono ?_;rintro e w' ⟨rfl,rfl⟩;go_wp2;go_ret3;exact⟨rfl,rfl⟩
 cases b5
 all_goals
  go_enter Tryz.func199,Tryz.ntmps199;go_wp2_with fail;refine(H1.out _).mono ?_;rintro e w' ⟨rfl,rfl⟩;go_wp2_with fail;refine(H2.out _).mono ?_;rintro e w' ⟨rfl,rfl⟩;go_wp2_with fail;refine(H3.out _).mono ?_;rintro e w' ⟨rfl,rfl⟩;go_wp2_with fail;refine(H4.out _).mono ?_;rintro e w' ⟨rfl,rfl⟩;go_wp2_with fail;refine(H5.out _).mono ?_;rintro e w' ⟨rfl,rfl⟩;go_wp2;go_ret3;exact⟨rfl,rfl⟩
