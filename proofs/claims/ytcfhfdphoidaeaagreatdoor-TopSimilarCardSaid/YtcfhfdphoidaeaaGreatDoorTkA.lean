/- The contracts of token's joined (at its two inner functions) and next. -/
import Derived.Test.YtcfhfdphoidaeaaGreatDoorFkA
import Derived.Outline
import Derived.Test.YtcfhfdphoidaeaaGreatDoorDcA
import Derived.Lib.ConvBytes
import Derived.Test.YtcfhfdphoidaeaaGreatDoorFct
set_option linter.unusedVariables false
set_option linter.unusedSimpArgs false
set_option maxHeartbeats 12800000
set_option maxRecDepth 20000
namespace Go.Proofs.YtcfhfdphoidaeaaGreatDoor
open Go.RowKit
section
namespace St
theorem jn_at(p:UInt8->Bool)(a b:UInt8)(s:ByteArray)(n:Nat)(h:n<s.size):s.data.toList.drop n=s[n] :: s.data.toList.drop (n+1):=by
 have hl:n<s.data.toList.length:=by rw[len_list];exact h
 rw[List.drop_eq_getElem_cons hl];rfl
theorem jn_end(p:UInt8->Bool)(a b:UInt8)(s:ByteArray)(n:Nat)(h:s.size<=n):jnL p a b (s.data.toList.drop n)=0:=by
 rw[List.drop_eq_nil_of_le (by rw[len_list];exact h)];rfl
theorem jn_in(p:UInt8->Bool)(a b:UInt8)(s:ByteArray)(n:Nat)(h:n<s.size)(hp:p s[n]=true):jnL p a b (s.data.toList.drop n)=1+jnL p a b (s.data.toList.drop (n+1)):=by
 rw[jn_at p a b s n h]
 by_cases h1:n+1<s.size
 ·rw[jn_at p a b s (n+1) h1,jnL,if_pos hp]
 ·rw[List.drop_eq_nil_of_le (by rw[len_list];omega),show jnL p a b [s[n]]=if p s[n] then 1 else 0 from rfl,if_pos hp];rfl
theorem jn_joint(p:UInt8->Bool)(a b:UInt8)(s:ByteArray)(n:Nat)(h:n+1<s.size)(hp:p s[n]=false)(hj:s[n]=a∨s[n]=b)(hq:p s[n+1]=true):jnL p a b (s.data.toList.drop n)=2+jnL p a b (s.data.toList.drop (n+2)):=by
 rw[jn_at p a b s n (by omega),jn_at p a b s (n+1) h,jnL,if_neg (by rw[hp];simp),if_pos ⟨hj,hq⟩]
theorem jn_stop(p:UInt8->Bool)(a b:UInt8)(s:ByteArray)(n:Nat)(h:n<s.size)(hp:p s[n]=false)(hj:¬ ((s[n]=a∨s[n]=b)/\∃ h1:n+1<s.size,p s[n+1]=true)):jnL p a b (s.data.toList.drop n)=0:=by
 rw[jn_at p a b s n h]
 by_cases h1:n+1<s.size
 ·rw[jn_at p a b s (n+1) h1,jnL,if_neg (by rw[hp];simp),if_neg (fun hh=>hj ⟨hh.1,h1,hh.2⟩)]
 ·rw[List.drop_eq_nil_of_le (by rw[len_list];omega),show jnL p a b [s[n]]=if p s[n] then 1 else 0 from rfl,if_neg (by rw[hp];simp)]
end St
def JnRel(p:UInt8->Bool)(a b:UInt8)(s:ByteArray)(i:Value):Prop:=∃ n:Nat,1<=n/\n<=s.size/\i=.int .i64 n/\n+St.jnL p a b (s.data.toList.drop n)=1+St.jnL p a b (s.data.toList.drop 1)
theorem wordlyJ_any(s:ByteArray)(w:World)(h0:0<s.size)(hs:s.size<=4611686018427387904) :
  Calls Tryz.prog 104 #[.string s,.string ⟨#[39,45]⟩,.func (.func 105) #[] #[]] w fun e w'=>e=.returned (.int .i64 ((1+St.jnL St.wordlyB 39 45 (s.data.toList.drop 1):Nat):Int))/\Und w w':=by
 generalize htot:1+St.jnL St.wordlyB 39 45 (s.data.toList.drop 1)=tot;have HT:=hid htot;clear htot;go_enter Tryz.func104,Tryz.ntmps104;go_wp2;go_loopw [7] (fun s7 wr=>JnRel St.wordlyB 39 45 s s7/\Und w wr) (fun s7 _=>s.size+1-(intOf s7).toNat)
 case atStart=>exact⟨⟨1,by omega,by omega,rfl,rfl⟩,Und.refl _⟩
 case round=>
  obtain⟨⟨n,hn1,hn,rfl,hh⟩,hu⟩:=hrel;have HU:=hid hu;have HH:=hid hh;clear hu hh
  by_cases hlt:n<s.size
  ·have hc:=wordly_any s[n]
   have HC:=hid hc;clear hc;cases hp:St.wordlyB s[n] with
   | true=>
    have HJ:=hid (St.jn_in St.wordlyB 39 45 s n hlt hp);rw[hp] at HC;clear hp;go_wp2_with (go_at_call 105;refine(HC.out _).mono ?_;rintro e w' ⟨rfl,X,rfl⟩);exact⟨⟨⟨n+1,by omega,by omega,congrArg (Value.int .i64) (by omega),by have h1:=HH.out;have h2:=HJ.out;omega⟩,HU.out.trans (by apply_rules[uUe,uUa,uUb,uUc,uUd])⟩,by simp[intOf];omega⟩
   | false=>
    rw[hp] at HC
    by_cases hj:s[n]=39∨s[n]=45
    ·by_cases h1:n+1<s.size
     ·have hd:=wordly_any s[n+1]
      have HD:=hid hd;clear hd;cases hq:St.wordlyB s[n+1] with
      | true=>
       have HJ:=hid (St.jn_joint St.wordlyB 39 45 s n h1 hp hj hq);rw[hq] at HD;have z1:(n:Int)+1<(s.size:Int):=by omega
       have z0:0<=(n:Int)+1:=by omega
       rcases hj with hj|hj
       ·have e1:((s[n].toNat:Int)==(((⟨#[39,45]⟩:ByteArray)[0]'(by decide)).toNat:Int))=true:=by rw[hj];rfl
        clear hp hq hj;go_wp2_with (go_at_call 105;refine(HC.out _).mono ?_;rintro e w' ⟨rfl,X,rfl⟩)
        first|refine wp_region_under2 (by kernel_rfl) (by kernel_rfl) ?_|refine wp_region_under (by kernel_rfl) (by kernel_rfl) ?_
        repeat (go_big_quiet_step (first|((go_at_call 105;exact Calls.under_of (HD.out _)))))
        refine wpQuiet_nil ?_;rintro _ ⟨X,rfl⟩;go_wp2;exact⟨⟨⟨n+2,by omega,by omega,congrArg (Value.int .i64) (by omega),by have h1:=HH.out;have h2:=HJ.out;omega⟩,HU.out.trans (by apply_rules[uUe,uUa,uUb,uUc,uUd])⟩,by simp[intOf];omega⟩
       ·have e1:((s[n].toNat:Int)==(((⟨#[39,45]⟩:ByteArray)[0]'(by decide)).toNat:Int))=false:=by rw[hj];rfl
        have e2:((s[n].toNat:Int)==(((⟨#[39,45]⟩:ByteArray)[1]'(by decide)).toNat:Int))=true:=by rw[hj];rfl
        clear hp hq hj;go_wp2_with (go_at_call 105;refine(HC.out _).mono ?_;rintro e w' ⟨rfl,X,rfl⟩)
        first|refine wp_region_under2 (by kernel_rfl) (by kernel_rfl) ?_|refine wp_region_under (by kernel_rfl) (by kernel_rfl) ?_
        repeat (go_big_quiet_step (first|((go_at_call 105;exact Calls.under_of (HD.out _)))))
        refine wpQuiet_nil ?_;rintro _ ⟨X,rfl⟩;go_wp2;exact⟨⟨⟨n+2,by omega,by omega,congrArg (Value.int .i64) (by omega),by have h1:=HH.out;have h2:=HJ.out;omega⟩,HU.out.trans (by apply_rules[uUe,uUa,uUb,uUc,uUd])⟩,by simp[intOf];omega⟩
      | false=>
       have HJ:=hid (St.jn_stop St.wordlyB 39 45 s n hlt hp fun hh=>by obtain⟨_,h2,h3⟩:=hh;rw[hq] at h3;cases h3);have HE:=hid (show n=tot from by have h1:=HH.out;have h2:=HJ.out;have h3:=HT.out;omega);rw[hq] at HD;have z1:(n:Int)+1<(s.size:Int):=by omega
       have z0:0<=(n:Int)+1:=by omega
       rcases hj with hj|hj
       ·have e1:((s[n].toNat:Int)==(((⟨#[39,45]⟩:ByteArray)[0]'(by decide)).toNat:Int))=true:=by rw[hj];rfl
        clear hp hq hj;go_wp2_with (go_at_call 105;refine(HC.out _).mono ?_;rintro e w' ⟨rfl,X,rfl⟩)
        first|refine wp_region_under2 (by kernel_rfl) (by kernel_rfl) ?_|refine wp_region_under (by kernel_rfl) (by kernel_rfl) ?_
        repeat (go_big_quiet_step (first|((go_at_call 105;exact Calls.under_of (HD.out _)))))
        refine wpQuiet_nil ?_;rintro _ ⟨X,rfl⟩;go_wp2;go_ret;exact⟨congrArg (fun k:Nat=>Ending.returned (.int .i64 (k:Int))) HE.out,HU.out.trans (by apply_rules[uUe,uUa,uUb,uUc,uUd])⟩
       ·have e1:((s[n].toNat:Int)==(((⟨#[39,45]⟩:ByteArray)[0]'(by decide)).toNat:Int))=false:=by rw[hj];rfl
        have e2:((s[n].toNat:Int)==(((⟨#[39,45]⟩:ByteArray)[1]'(by decide)).toNat:Int))=true:=by rw[hj];rfl
        clear hp hq hj;go_wp2_with (go_at_call 105;refine(HC.out _).mono ?_;rintro e w' ⟨rfl,X,rfl⟩)
        first|refine wp_region_under2 (by kernel_rfl) (by kernel_rfl) ?_|refine wp_region_under (by kernel_rfl) (by kernel_rfl) ?_
        repeat (go_big_quiet_step (first|((go_at_call 105;exact Calls.under_of (HD.out _)))))
        refine wpQuiet_nil ?_;rintro _ ⟨X,rfl⟩;go_wp2;go_ret;exact⟨congrArg (fun k:Nat=>Ending.returned (.int .i64 (k:Int))) HE.out,HU.out.trans (by apply_rules[uUe,uUa,uUb,uUc,uUd])⟩
     ·have HJ:=hid (St.jn_stop St.wordlyB 39 45 s n hlt hp fun hh=>h1 hh.2.1)
      have HE:=hid (show n=tot from by have h1:=HH.out;have h2:=HJ.out;have h3:=HT.out;omega);have z1:decide ((n:Int)+1<(s.size:Int))=false:=decide_eq_false (by omega);rcases hj with hj|hj
      ·have e1:((s[n].toNat:Int)==(((⟨#[39,45]⟩:ByteArray)[0]'(by decide)).toNat:Int))=true:=by rw[hj];rfl
       clear hp hj;go_wp2_with (go_at_call 105;refine(HC.out _).mono ?_;rintro e w' ⟨rfl,X,rfl⟩)
       first|refine wp_region_under2 (by kernel_rfl) (by kernel_rfl) ?_|refine wp_region_under (by kernel_rfl) (by kernel_rfl) ?_
       repeat (go_big_quiet_step (first|(fail)))
       refine wpQuiet_nil ?_;rintro _ ⟨X,rfl⟩;go_wp2;go_ret;exact⟨congrArg (fun k:Nat=>Ending.returned (.int .i64 (k:Int))) HE.out,HU.out.trans (by apply_rules[uUe,uUa,uUb,uUc,uUd])⟩
      ·have e1:((s[n].toNat:Int)==(((⟨#[39,45]⟩:ByteArray)[0]'(by decide)).toNat:Int))=false:=by rw[hj];rfl
       have e2:((s[n].toNat:Int)==(((⟨#[39,45]⟩:ByteArray)[1]'(by decide)).toNat:Int))=true:=by rw[hj];rfl
       clear hp hj;go_wp2_with (go_at_call 105;refine(HC.out _).mono ?_;rintro e w' ⟨rfl,X,rfl⟩)
       first|refine wp_region_under2 (by kernel_rfl) (by kernel_rfl) ?_|refine wp_region_under (by kernel_rfl) (by kernel_rfl) ?_
       repeat (go_big_quiet_step (first|(fail)))
       refine wpQuiet_nil ?_;rintro _ ⟨X,rfl⟩;go_wp2;go_ret;exact⟨congrArg (fun k:Nat=>Ending.returned (.int .i64 (k:Int))) HE.out,HU.out.trans (by apply_rules[uUe,uUa,uUb,uUc,uUd])⟩
    ·have HJ:=hid (St.jn_stop St.wordlyB 39 45 s n hlt hp fun hh=>hj hh.1)
     have HE:=hid (show n=tot from by have h1:=HH.out;have h2:=HJ.out;have h3:=HT.out;omega)
     have e1:((s[n].toNat:Int)==(((⟨#[39,45]⟩:ByteArray)[0]'(by decide)).toNat:Int))=false:=by
      simp only[not_or] at hj;have:s[n].toNat ≠ 39:=fun e=>hj.1 (UInt8.toNat_inj.1 e)
      have hh:((s[n].toNat:Int)==39)=false:=by simp;omega
      exact hh
     have e2:((s[n].toNat:Int)==(((⟨#[39,45]⟩:ByteArray)[1]'(by decide)).toNat:Int))=false:=by
      simp only[not_or] at hj;have:s[n].toNat ≠ 45:=fun e=>hj.2 (UInt8.toNat_inj.1 e)
      have hh:((s[n].toNat:Int)==45)=false:=by simp;omega
      exact hh
     clear hp hj;go_wp2_with (go_at_call 105;refine(HC.out _).mono ?_;rintro e w' ⟨rfl,X,rfl⟩)
     first|refine wp_region_under2 (by kernel_rfl) (by kernel_rfl) ?_|refine wp_region_under (by kernel_rfl) (by kernel_rfl) ?_
     repeat (go_big_quiet_step (first|(fail)))
     refine wpQuiet_nil ?_;rintro _ ⟨X,rfl⟩;go_wp2;go_ret;exact⟨congrArg (fun k:Nat=>Ending.returned (.int .i64 (k:Int))) HE.out,HU.out.trans (by apply_rules[uUe,uUa,uUb,uUc,uUd])⟩
  ·have HE:=hid (show n=tot from by have h1:=HH.out;have h2:=St.jn_end St.wordlyB 39 45 s n (by omega);have h3:=HT.out;omega)
   go_wp2;go_ret;exact⟨congrArg (fun k:Nat=>Ending.returned (.int .i64 (k:Int))) HE.out,HU.out⟩
theorem digitJ_any(s:ByteArray)(w:World)(h0:0<s.size)(hs:s.size<=4611686018427387904) :
  Calls Tryz.prog 104 #[.string s,.string ⟨#[46,44]⟩,.func (.func 106) #[] #[]] w fun e w'=>e=.returned (.int .i64 ((1+St.jnL St.digitB 46 44 (s.data.toList.drop 1):Nat):Int))/\Und w w':=by
 generalize htot:1+St.jnL St.digitB 46 44 (s.data.toList.drop 1)=tot;have HT:=hid htot;clear htot;go_enter Tryz.func104,Tryz.ntmps104;go_wp2;go_loopw [7] (fun s7 wr=>JnRel St.digitB 46 44 s s7/\Und w wr) (fun s7 _=>s.size+1-(intOf s7).toNat)
 case atStart=>exact⟨⟨1,by omega,by omega,rfl,rfl⟩,Und.refl _⟩
 case round=>
  obtain⟨⟨n,hn1,hn,rfl,hh⟩,hu⟩:=hrel;have HU:=hid hu;have HH:=hid hh;clear hu hh
  by_cases hlt:n<s.size
  ·have hc:=digit_any s[n]
   have HC:=hid hc;clear hc;cases hp:St.digitB s[n] with
   | true=>
    have HJ:=hid (St.jn_in St.digitB 46 44 s n hlt hp);rw[hp] at HC;clear hp;go_wp2_with (go_at_call 106;refine(HC.out _).mono ?_;rintro e w' ⟨rfl,X,rfl⟩);exact⟨⟨⟨n+1,by omega,by omega,congrArg (Value.int .i64) (by omega),by have h1:=HH.out;have h2:=HJ.out;omega⟩,HU.out.trans (by apply_rules[uUe,uUa,uUb,uUc,uUd])⟩,by simp[intOf];omega⟩
   | false=>
    rw[hp] at HC
    by_cases hj:s[n]=46∨s[n]=44
    ·by_cases h1:n+1<s.size
     ·have hd:=digit_any s[n+1]
      have HD:=hid hd;clear hd;cases hq:St.digitB s[n+1] with
      | true=>
       have HJ:=hid (St.jn_joint St.digitB 46 44 s n h1 hp hj hq);rw[hq] at HD;have z1:(n:Int)+1<(s.size:Int):=by omega
       have z0:0<=(n:Int)+1:=by omega
       rcases hj with hj|hj
       ·have e1:((s[n].toNat:Int)==(((⟨#[46,44]⟩:ByteArray)[0]'(by decide)).toNat:Int))=true:=by rw[hj];rfl
        clear hp hq hj;go_wp2_with (go_at_call 106;refine(HC.out _).mono ?_;rintro e w' ⟨rfl,X,rfl⟩)
        first|refine wp_region_under2 (by kernel_rfl) (by kernel_rfl) ?_|refine wp_region_under (by kernel_rfl) (by kernel_rfl) ?_
        repeat (go_big_quiet_step (first|((go_at_call 106;exact Calls.under_of (HD.out _)))))
        refine wpQuiet_nil ?_;rintro _ ⟨X,rfl⟩;go_wp2;exact⟨⟨⟨n+2,by omega,by omega,congrArg (Value.int .i64) (by omega),by have h1:=HH.out;have h2:=HJ.out;omega⟩,HU.out.trans (by apply_rules[uUe,uUa,uUb,uUc,uUd])⟩,by simp[intOf];omega⟩
       ·have e1:((s[n].toNat:Int)==(((⟨#[46,44]⟩:ByteArray)[0]'(by decide)).toNat:Int))=false:=by rw[hj];rfl
        have e2:((s[n].toNat:Int)==(((⟨#[46,44]⟩:ByteArray)[1]'(by decide)).toNat:Int))=true:=by rw[hj];rfl
        clear hp hq hj;go_wp2_with (go_at_call 106;refine(HC.out _).mono ?_;rintro e w' ⟨rfl,X,rfl⟩)
        first|refine wp_region_under2 (by kernel_rfl) (by kernel_rfl) ?_|refine wp_region_under (by kernel_rfl) (by kernel_rfl) ?_
        repeat (go_big_quiet_step (first|((go_at_call 106;exact Calls.under_of (HD.out _)))))
        refine wpQuiet_nil ?_;rintro _ ⟨X,rfl⟩;go_wp2;exact⟨⟨⟨n+2,by omega,by omega,congrArg (Value.int .i64) (by omega),by have h1:=HH.out;have h2:=HJ.out;omega⟩,HU.out.trans (by apply_rules[uUe,uUa,uUb,uUc,uUd])⟩,by simp[intOf];omega⟩
      | false=>
       have HJ:=hid (St.jn_stop St.digitB 46 44 s n hlt hp fun hh=>by obtain⟨_,h2,h3⟩:=hh;rw[hq] at h3;cases h3);have HE:=hid (show n=tot from by have h1:=HH.out;have h2:=HJ.out;have h3:=HT.out;omega);rw[hq] at HD;have z1:(n:Int)+1<(s.size:Int):=by omega
       have z0:0<=(n:Int)+1:=by omega
       rcases hj with hj|hj
       ·have e1:((s[n].toNat:Int)==(((⟨#[46,44]⟩:ByteArray)[0]'(by decide)).toNat:Int))=true:=by rw[hj];rfl
        clear hp hq hj;go_wp2_with (go_at_call 106;refine(HC.out _).mono ?_;rintro e w' ⟨rfl,X,rfl⟩)
        first|refine wp_region_under2 (by kernel_rfl) (by kernel_rfl) ?_|refine wp_region_under (by kernel_rfl) (by kernel_rfl) ?_
        repeat (go_big_quiet_step (first|((go_at_call 106;exact Calls.under_of (HD.out _)))))
        refine wpQuiet_nil ?_;rintro _ ⟨X,rfl⟩;go_wp2;go_ret;exact⟨congrArg (fun k:Nat=>Ending.returned (.int .i64 (k:Int))) HE.out,HU.out.trans (by apply_rules[uUe,uUa,uUb,uUc,uUd])⟩
       ·have e1:((s[n].toNat:Int)==(((⟨#[46,44]⟩:ByteArray)[0]'(by decide)).toNat:Int))=false:=by rw[hj];rfl
        have e2:((s[n].toNat:Int)==(((⟨#[46,44]⟩:ByteArray)[1]'(by decide)).toNat:Int))=true:=by rw[hj];rfl
        clear hp hq hj;go_wp2_with (go_at_call 106;refine(HC.out _).mono ?_;rintro e w' ⟨rfl,X,rfl⟩)
        first|refine wp_region_under2 (by kernel_rfl) (by kernel_rfl) ?_|refine wp_region_under (by kernel_rfl) (by kernel_rfl) ?_
        repeat (go_big_quiet_step (first|((go_at_call 106;exact Calls.under_of (HD.out _)))))
        refine wpQuiet_nil ?_;rintro _ ⟨X,rfl⟩;go_wp2;go_ret;exact⟨congrArg (fun k:Nat=>Ending.returned (.int .i64 (k:Int))) HE.out,HU.out.trans (by apply_rules[uUe,uUa,uUb,uUc,uUd])⟩
     ·have HJ:=hid (St.jn_stop St.digitB 46 44 s n hlt hp fun hh=>h1 hh.2.1)
      have HE:=hid (show n=tot from by have h1:=HH.out;have h2:=HJ.out;have h3:=HT.out;omega);have z1:decide ((n:Int)+1<(s.size:Int))=false:=decide_eq_false (by omega);rcases hj with hj|hj
      ·have e1:((s[n].toNat:Int)==(((⟨#[46,44]⟩:ByteArray)[0]'(by decide)).toNat:Int))=true:=by rw[hj];rfl
       clear hp hj;go_wp2_with (go_at_call 106;refine(HC.out _).mono ?_;rintro e w' ⟨rfl,X,rfl⟩)
       first|refine wp_region_under2 (by kernel_rfl) (by kernel_rfl) ?_|refine wp_region_under (by kernel_rfl) (by kernel_rfl) ?_
       repeat (go_big_quiet_step (first|(fail)))
       refine wpQuiet_nil ?_;rintro _ ⟨X,rfl⟩;go_wp2;go_ret;exact⟨congrArg (fun k:Nat=>Ending.returned (.int .i64 (k:Int))) HE.out,HU.out.trans (by apply_rules[uUe,uUa,uUb,uUc,uUd])⟩
      ·have e1:((s[n].toNat:Int)==(((⟨#[46,44]⟩:ByteArray)[0]'(by decide)).toNat:Int))=false:=by rw[hj];rfl
       have e2:((s[n].toNat:Int)==(((⟨#[46,44]⟩:ByteArray)[1]'(by decide)).toNat:Int))=true:=by rw[hj];rfl
       clear hp hj;go_wp2_with (go_at_call 106;refine(HC.out _).mono ?_;rintro e w' ⟨rfl,X,rfl⟩)
       first|refine wp_region_under2 (by kernel_rfl) (by kernel_rfl) ?_|refine wp_region_under (by kernel_rfl) (by kernel_rfl) ?_
       repeat (go_big_quiet_step (first|(fail)))
       refine wpQuiet_nil ?_;rintro _ ⟨X,rfl⟩;go_wp2;go_ret;exact⟨congrArg (fun k:Nat=>Ending.returned (.int .i64 (k:Int))) HE.out,HU.out.trans (by apply_rules[uUe,uUa,uUb,uUc,uUd])⟩
    ·have HJ:=hid (St.jn_stop St.digitB 46 44 s n hlt hp fun hh=>hj hh.1)
     have HE:=hid (show n=tot from by have h1:=HH.out;have h2:=HJ.out;have h3:=HT.out;omega)
     have e1:((s[n].toNat:Int)==(((⟨#[46,44]⟩:ByteArray)[0]'(by decide)).toNat:Int))=false:=by
      simp only[not_or] at hj;have:s[n].toNat ≠ 46:=fun e=>hj.1 (UInt8.toNat_inj.1 e)
      have hh:((s[n].toNat:Int)==46)=false:=by simp;omega
      exact hh
     have e2:((s[n].toNat:Int)==(((⟨#[46,44]⟩:ByteArray)[1]'(by decide)).toNat:Int))=false:=by
      simp only[not_or] at hj;have:s[n].toNat ≠ 44:=fun e=>hj.2 (UInt8.toNat_inj.1 e)
      have hh:((s[n].toNat:Int)==44)=false:=by simp;omega
      exact hh
     clear hp hj;go_wp2_with (go_at_call 106;refine(HC.out _).mono ?_;rintro e w' ⟨rfl,X,rfl⟩)
     first|refine wp_region_under2 (by kernel_rfl) (by kernel_rfl) ?_|refine wp_region_under (by kernel_rfl) (by kernel_rfl) ?_
     repeat (go_big_quiet_step (first|(fail)))
     refine wpQuiet_nil ?_;rintro _ ⟨X,rfl⟩;go_wp2;go_ret;exact⟨congrArg (fun k:Nat=>Ending.returned (.int .i64 (k:Int))) HE.out,HU.out.trans (by apply_rules[uUe,uUa,uUb,uUc,uUd])⟩
  ·have HE:=hid (show n=tot from by have h1:=HH.out;have h2:=St.jn_end St.digitB 46 44 s n (by omega);have h3:=HT.out;omega)
   go_wp2;go_ret;exact⟨congrArg (fun k:Nat=>Ending.returned (.int .i64 (k:Int))) HE.out,HU.out⟩
theorem sp_end(s:ByteArray)(n:Nat)(h:s.size<=n):St.spL (s.data.toList.drop n)=0:=by
 rw[List.drop_eq_nil_of_le (by rw[St.len_list];exact h)];rfl
theorem sp_at(s:ByteArray)(n:Nat)(h:n<s.size):St.spL (s.data.toList.drop n)=if St.clsB s[n]=2 then 1+St.spL (s.data.toList.drop (n+1)) else 0:=by
 rw[St.jn_at St.digitB 0 0 s n h];unfold St.spL;rw[List.takeWhile_cons]
 by_cases e:St.clsB s[n]=2
 ·rw[if_pos e,if_pos (by simp[e]),List.length_cons];omega
 ·rw[if_neg e,if_neg (by simp[e])];rfl
def SpRel(s:ByteArray)(i:Value):Prop:=∃ n:Nat,1<=n/\n<=s.size/\i=.int .i64 n/\n+St.spL (s.data.toList.drop n)=1+St.spL (s.data.toList.drop 1)
theorem next_eq(s:ByteArray)(h:0<s.size):St.nextL s.data.toList=if St.clsB s[0]=4 then (6,1+St.jnL St.wordlyB 39 45 (s.data.toList.drop 1)) else if St.clsB s[0]=3 then (7,1+St.jnL St.digitB 46 44 (s.data.toList.drop 1)) else if St.clsB s[0]=2 then (8,1+St.spL (s.data.toList.drop 1)) else (9,1):=by
 have:=St.jn_at St.digitB 0 0 s 0 h
 rw[List.drop_zero] at this
 conv=>lhs;rw[this]
 rfl
theorem tnext_any(s:ByteArray)(w:World)(h0:0<s.size)(hs:s.size<=4611686018427387904) :
  Calls Tryz.prog 48 #[.string s] w fun e w'=>e=.returned (.tuple #[.int .i64 (St.nextL s.data.toList).1,.int .i64 ((St.nextL s.data.toList).2:Int)])/\Und w w':=by
 have hc:=of_any s[0];rw[next_eq s h0];rcases cls_val s[0] with e|e|e|e|e <;> rw[e] at hc ⊢
 ·have HC:=hid hc
  clear hc e;go_enter Tryz.func48,Tryz.ntmps48;go_wp2_with (go_at_call 103;refine(HC.out _).mono ?_;rintro e w' ⟨rfl,X,rfl⟩);go_ret2;exact⟨rfl,(by apply_rules[uUe,uUa,uUb,uUc,uUd])⟩
 ·have HC:=hid hc
  clear hc e;simp only[show ¬ ((2:Int)=4) by decide,show ¬ ((2:Int)=3) by decide,if_false,if_true];generalize htot:1+St.spL (s.data.toList.drop 1)=tot;have HT:=hid htot;clear htot;go_enter Tryz.func48,Tryz.ntmps48;go_wp2_with (go_at_call 103;refine(HC.out _).mono ?_;rintro e w' ⟨rfl,X,rfl⟩);go_loopw [4] (fun s4 wr=>SpRel s s4/\Und w wr) (fun s4 _=>s.size+1-(intOf s4).toNat)
  case atStart=>exact⟨⟨1,by omega,by omega,rfl,rfl⟩,(by apply_rules[uUe,uUa,uUb,uUc,uUd])⟩
  case round=>
   obtain⟨⟨n,hn1,hn,rfl,hh⟩,hu⟩:=hrel;have HU:=hid hu;have HH:=hid hh;clear hu hh
   by_cases hlt:n<s.size
   ·have hcn:=of_any s[n]
    have HS:=hid (sp_at s n hlt)
    by_cases e2:St.clsB s[n]=2
    ·rw[e2] at hcn
     have HCN:=hid hcn;have HE:=hid (show n+1+St.spL (s.data.toList.drop (n+1))=1+St.spL (s.data.toList.drop 1) from by have h1:=HH.out;have h2:=HS.out;rw[if_pos e2] at h2;omega);clear hcn e2;go_wp2_with (go_at_call 103;refine(HCN.out _).mono ?_;rintro e w' ⟨rfl,X,rfl⟩);exact⟨⟨⟨n+1,by omega,by omega,congrArg (Value.int .i64) (by omega),HE.out⟩,HU.out.trans (by apply_rules[uUe,uUa,uUb,uUc,uUd])⟩,by simp[intOf];omega⟩
    ·have HE:=hid (show n=tot from by have h1:=HH.out;have h2:=HS.out;have h3:=HT.out;rw[if_neg e2] at h2;omega)
     have q2:(St.clsB s[n]==2)=false:=by simpa using e2
     generalize St.clsB s[n]=cc at hcn q2;have HCN:=hid hcn;clear hcn e2;go_wp2_with (go_at_call 103;refine(HCN.out _).mono ?_;rintro e w' ⟨rfl,X,rfl⟩);go_ret2;exact⟨congrArg (fun k:Nat=>Ending.returned (.tuple #[.int .i64 8,.int .i64 (k:Int)])) HE.out,HU.out.trans (by apply_rules[uUe,uUa,uUb,uUc,uUd])⟩
   ·have HE:=hid (show n=tot from by have h1:=HH.out;have h2:=sp_end s n (by omega);have h3:=HT.out;omega)
    go_wp2;go_ret2;exact⟨congrArg (fun k:Nat=>Ending.returned (.tuple #[.int .i64 8,.int .i64 (k:Int)])) HE.out,HU.out⟩
 ·have HC:=hid hc
  clear hc e;simp only[show ¬ ((3:Int)=4) by decide,if_false,if_true];have hD:=fun W=>digitJ_any s W h0 hs
  generalize 1+St.jnL St.digitB 46 44 (s.data.toList.drop 1)=J at hD ⊢;have HD:=hid hD;clear hD;go_enter Tryz.func48,Tryz.ntmps48;go_wp2_with (first|(go_at_call 103;refine(HC.out _).mono ?_;rintro e w' ⟨rfl,X,rfl⟩)|(go_at_call 104;refine(HD.out _).mono ?_;rintro e w' ⟨rfl,X,rfl⟩));go_ret2;exact⟨rfl,(by apply_rules[uUe,uUa,uUb,uUc,uUd])⟩
 ·have HC:=hid hc
  clear hc e;simp only[if_true];have hW:=fun W=>wordlyJ_any s W h0 hs
  generalize 1+St.jnL St.wordlyB 39 45 (s.data.toList.drop 1)=J at hW ⊢;have HW:=hid hW;clear hW;go_enter Tryz.func48,Tryz.ntmps48;go_wp2_with (first|(go_at_call 103;refine(HC.out _).mono ?_;rintro e w' ⟨rfl,X,rfl⟩)|(go_at_call 104;refine(HW.out _).mono ?_;rintro e w' ⟨rfl,X,rfl⟩));go_ret2;exact⟨rfl,(by apply_rules[uUe,uUa,uUb,uUc,uUd])⟩
 ·have HC:=hid hc
  clear hc e;go_enter Tryz.func48,Tryz.ntmps48;go_wp2_with (go_at_call 103;refine(HC.out _).mono ?_;rintro e w' ⟨rfl,X,rfl⟩);go_ret2;exact⟨rfl,(by apply_rules[uUe,uUa,uUb,uUc,uUd])⟩
end
section
theorem info_tok:(Tryz.prog.info? 104).map (fun i=>(i.zero,i.size,i.bytes))=some (some (.agg #[.int .i64 0,.string ⟨#[]⟩,.int .i64 0]),3,32):=by kernel_rfl
namespace St
theorem tokL_take(f:List It)(k:Nat)(h:k<f.length):tokL (f.take (k+1))=tokL (f.take k)++tokI f[k]:=by
 unfold tokL;rw[List.take_add_one,List.getElem?_eq_getElem h,List.flatMap_append];simp
theorem tokL_le(f:List It)(k:Nat):(tokL (f.take k)).length<=(tokL f).length:=by
 unfold tokL
 conv=>rhs;rw[<- List.take_append_drop k f]
 rw[List.flatMap_append,List.length_append];omega
theorem tok_next(s:ByteArray)(h:0<s.size)(m:Nat)(hm:(nextL s.data.toList).2=m) :
  1<=m/\m<=s.size/\tokT s.data.toList.length s.data.toList=((nextL s.data.toList).1,s.data.toList.take m,0) :: tokT (s.data.toList.drop m).length (s.data.toList.drop m):=by
 subst hm;have e:=jn_at digitB 0 0 s 0 h;rw[List.drop_zero] at e;have hl:=len_list s;generalize s.data.toList=l at e hl ⊢;obtain⟨r,hr⟩:∃ r,List.drop (0+1) l=r:=⟨_,rfl⟩;rw[hr] at e;clear hr;subst e;obtain⟨h1,h2⟩:=next_le s[0] r;rw[List.length_cons] at hl;exact⟨h1,by omega,by rw[List.length_cons];exact tokT_cons _ _⟩
end St
def TkRel(w:World)(f:List St.It)(n:Nat)(s3 s11:Value)(wr:World):Prop:=
 ∃ k:Nat,k<=n/\s11=.int .i64 k/\wr.ownsRow w.heap.size 104 3 s3 (St.tokL (f.take k)).length (cellsIt (St.tokL (f.take k)))/\Und w wr
def TiRel(w:World)(T:List St.It)(m:Nat)(s3 s6:Value)(wr:World):Prop:=
 ∃ (s:ByteArray) (O:List St.It),s6=.string s/\O++St.tokT s.data.toList.length s.data.toList=T/\s.size<=m/\wr.ownsRow w.heap.size 104 3 s3 O.length (cellsIt O)/\Und w wr
def strN:Value->Nat
 | .string s=>s.size
 | _=>0
theorem tokens_any(A:Option Addr)(n c:Nat)(f:List St.It)(w:World)(hn:f.length=n)(h:ItemsAt w A f)(hl:n<=1000000)(ht:tot f<=100000000) :
  Calls Tryz.prog 12 #[.slice A n c] w fun e w'=>∃ v,e=.returned v/\w'.ownsRow w.heap.size 104 3 v (St.tokL f).length (cellsIt (St.tokL f))/\Und w w':=by
 have hmost:(St.tokL f).length<=200000000:=by
  have h1:(St.tokL f).length<=f.length+tot f:=St.tokL_len f;omega
 have H:=hid h;have HN:=hid hn;have HM:=hid hmost;have HT:=hid ht;obtain⟨i0,hi,hz0,hz1,hz2⟩:=info_parts info_tok;clear h hn hmost ht;go_enter Tryz.func12,Tryz.ntmps12;go_wp2;go_loopw [3,11] (fun s3 s11 wr=>TkRel w f n s3 s11 wr) (fun _ s11 _=>n+1-(intOf s11).toNat)
 case atStart=>exact⟨0,by omega,rfl,World.ownsRow_nil _ _ _ _,Und.refl _⟩
 case round=>
  obtain⟨k,hk,rfl,hown,hu⟩:=hrel;have HU:=hid hu;have HOW:=hid hown;have hsz:=hu.size;have hN:=HN.out;obtain⟨AO,cO,rfl,_⟩:=own_slice hown;clear hu hown
  by_cases hlt:k<n
  ·have hlt2:k<f.length:=by omega
   obtain⟨b,off,rfl,hb,hc⟩:=(H.out.und HU.out) (by omega);obtain⟨c0,c1,c2⟩:=hc k hlt2;have htk:=St.tokL_take f k hlt2;have hle:=St.tokL_le f (k+1);have htot:=tot_tk f k hlt2;have htle:=tot_tk_le f (k+1);generalize f[k]=x at c0 c1 c2 htk htot;obtain⟨kd,tx,id⟩:=x;simp only at c0 c1 c2 htot;have hM:=HM.out;have hT:=HT.out;haveI:LtW b wr:=LtW.of hb;have htx:tx.length<=100000000:=by omega
   have HTK:=hid htk;have HLE:=hid hle;clear hc htk hle htot htle
   by_cases hkd:kd=2∨kd=3∨kd=4∨kd=5
   ·have hti:St.tokI (kd,tx,id)=[(kd,tx,id)]:=by unfold St.tokI;rw[if_pos hkd]
    have hlen:(St.tokL (f.take k)).length+1<=200000000:=by
     have h1:=HLE.out;rw[HTK.out,hti,List.length_append,List.length_singleton] at h1;omega
    have hfin:∀ v' w4,w4.ownsRow w.heap.size 104 3 v' ((St.tokL (f.take k)).length+1) (cellsIt (St.tokL (f.take k))++[.int .i64 kd,.string ⟨tx.toArray⟩,.int .i64 id])->Und w w4->TkRel w f n v' (.int .i64 ((k:Int)+1)) w4:=fun v' w4 h1 h2=>
     ⟨k+1,by omega,congrArg (Value.int .i64) (by omega),by rw[HTK.out,hti,cellsIt_snoc,List.length_append,List.length_singleton];exact h1,h2⟩
    have HFIN:=hid hfin;clear hti hfin;generalize St.tokL (f.take k)=O at HOW HFIN hlen;rcases hkd with e|e|e|e <;>
    ·first|have q2:(kd==2)=true:=by (rw[e];rfl)|have q2:(kd==2)=false:=by (rw[e];rfl)
     first|have q3:(kd==3)=true:=by (rw[e];rfl)|have q3:(kd==3)=false:=by (rw[e];rfl)
     first|have q4:(kd==4)=true:=by (rw[e];rfl)|have q4:(kd==4)=false:=by (rw[e];rfl)
     first|have q5:(kd==5)=true:=by (rw[e];rfl)|have q5:(kd==5)=false:=by (rw[e];rfl)
     clear e;go_wp2_with (at_builtin;refine wpList_append_own _ rfl _ _ 45 rfl w.heap.size 104 i0 (.agg #[.int .i64 0,.string ⟨#[]⟩,.int .i64 0]) 3 32 Tryz.underlying45 hi hz0 hz1 hz2 rfl (by decide) (.slice AO O.length cO) O.length _ rfl (own_und (by apply_rules[uUe,uUa,uUb,uUc,uUd]) HOW.out) _ 1 1 [.int .i64 kd,.string ⟨tx.toArray⟩,.int .i64 id] rfl rfl ?_ (item_one _ _ _) (by unfold maxLen;omega) (by omega) ?_ ?_)
     all_goals try exact side3b _ _ _ _ _ _ (by simp)
     all_goals try omega
     all_goals try (simp;omega;done)
     ·intro v' w4 hown' hgrow _
      have HE:=hid (HFIN.out v' w4 hown' ((HU.out.trans (by apply_rules[uUe,uUa,uUb,uUc,uUd])).grown hgrow (fun g hg=>owns_block HOW.out g hg)));clear hown' hgrow;go_wp2;exact⟨HE.out,by simp[intOf];omega⟩
   ·simp only[not_or] at hkd
    obtain⟨n2,n3,n4,n5⟩:=hkd;have q2:(kd==2)=false:=by simpa using n2
    have q3:(kd==3)=false:=by simpa using n3
    have q4:(kd==4)=false:=by simpa using n4
    have q5:(kd==5)=false:=by simpa using n5
    by_cases k1:kd=1
    ·subst k1
     have hti:St.tokI (1,tx,id)=St.tokT tx.length tx:=by unfold St.tokI;rw[if_neg (by simp),if_pos rfl]
     rw[hti] at HTK;generalize hO:St.tokL (f.take k)=O at HOW HTK;obtain⟨T,hTe⟩:∃ T,O++St.tokT tx.length tx=T:=⟨_,rfl⟩
     have hTl:T.length<=200000000:=by
      have h1:=HLE.out;rw[HTK.out,hTe] at h1;omega
     have HTE:=hid hTe;have HFT:=hid (show St.tokL (f.take (k+1))=T from HTK.out.trans hTe);clear hti hTe hO HTK q2 q3 q4 q5 n2 n3 n4 n5;go_wp2_with fail;go_loopw [3,6] (fun s3 s6 wr=>TiRel w T tx.length s3 s6 wr) (fun _ s6 _=>strN s6+1)
     case atStart=>exact⟨⟨tx.toArray⟩,O,rfl,by simpa using HTE.out,by show tx.toArray.size<=_;simp,own_und (by apply_rules[uUe,uUa,uUb,uUc,uUd]) HOW.out,HU.out.trans (by apply_rules[uUe,uUa,uUb,uUc,uUd])⟩
     case round=>
      clear c0 c1 c2 HOW HTE;obtain⟨s,P,rfl,hP,hsm,hown,hu⟩:=hrel;have HU2:=hid hu;have HOP:=hid hown;have hsz2:=hu.size;obtain⟨AP,cP,rfl,_⟩:=own_slice hown;clear hu hown
      by_cases hs0:s.size=0
      ·have hnil:s.data.toList=[]:=List.length_eq_zero_iff.1 (by rw[St.len_list];exact hs0)
       rw[hnil] at hP;have hPT:P=T:=by simpa [St.tokT] using hP
       have e1:(!s.toList.isEmpty)=false:=by rw[Lib.toList_data,hnil];rfl
       have HE:=hid (show TkRel w f n (.slice AP P.length cP) (.int .i64 ((k:Int)+1)) wr from⟨k+1,by omega,congrArg (Value.int .i64) (by omega),by rw[HFT.out,<- hPT];exact HOP.out,HU2.out⟩);clear hP hPT hnil;go_wp2;exact⟨HE.out,by simp[intOf];omega⟩
      ·have hs1:0<s.size:=by omega
       obtain⟨m,hm⟩:∃ m,(St.nextL s.data.toList).2=m:=⟨_,rfl⟩;obtain⟨kk,hkk⟩:∃ kk,(St.nextL s.data.toList).1=kk:=⟨_,rfl⟩;obtain⟨hm1,hm2,htok⟩:=St.tok_next s hs1 m hm;rw[hkk] at htok;have hcall:=fun W=>tnext_any s W hs1 (by omega)
       rw[hm,hkk] at hcall;have HC:=hid hcall
       have e1:(!s.toList.isEmpty)=true:=by
        rw[Lib.toList_data];cases hq:s.data.toList with
        | nil=>exact absurd (by rw[<- St.len_list,hq];rfl) hs0
        | cons a b=>rfl
       have hPl:P.length+1<=200000000:=by
        have h1:=congrArg List.length hP;rw[htok,List.length_append,List.length_cons] at h1;omega
       have hx1:(s.extract 0 m).data.toList=s.data.toList.take m:=by rw[Lib.extract_data,List.drop_zero,Nat.sub_zero]
       have hx2:(s.extract m s.size).data.toList=s.data.toList.drop m:=by rw[Lib.extract_data,List.take_of_length_le (by rw[List.length_drop,St.len_list];exact Nat.le_refl _)]
       have hx3:(s.extract m s.size).size<=s.size-1:=by rw[ByteArray.size_extract];omega
       obtain⟨tk,htk⟩:∃ tk,s.extract 0 m=tk:=⟨_,rfl⟩;obtain⟨rs,hrs⟩:∃ rs,s.extract m s.size=rs:=⟨_,rfl⟩;rw[htk] at hx1;rw[hrs] at hx2 hx3
       have hfin:∀ v' w4,w4.ownsRow w.heap.size 104 3 v' (P.length+1) (cellsIt P++[.int .i64 kk,.string tk,.int .i64 0])->Und w w4->TiRel w T tx.length v' (.string rs) w4:=fun v' w4 h1 h2=>
        ⟨rs,P++[(kk,tk.data.toList,0)],rfl,by rw[<- hP,htok,hx1,hx2,List.append_assoc];rfl,by omega,by rw[cellsIt_snoc,List.length_append,List.length_singleton,ba_eta];exact h1,h2⟩
       have HFIN:=hid hfin;have HTK:=hid htk;have HRS:=hid hrs;have z1:(m:Int)<=(s.size:Int):=by omega
       clear hP htok hcall hm hkk hx1 hx2 hfin htk hrs hs0;go_wp2_with (first|(go_at_call 48;refine(HC.out _).mono ?_;rintro e w' ⟨rfl,X,rfl⟩)|(at_builtin;refine wpList_append_own _ rfl _ _ 45 rfl w.heap.size 104 i0 (.agg #[.int .i64 0,.string ⟨#[]⟩,.int .i64 0]) 3 32 Tryz.underlying45 hi hz0 hz1 hz2 rfl (by decide) (.slice AP P.length cP) P.length _ rfl (own_und (by apply_rules[uUe,uUa,uUb,uUc,uUd]) HOP.out) _ 1 1 [.int .i64 kk,.string (s.extract 0 m),.int .i64 0] rfl rfl ?_ (item_one _ _ _) (by unfold maxLen;omega) (by omega) ?_ ?_))
       all_goals try exact side3b _ _ _ _ _ _ (by simp)
       all_goals try exact(HU2.out.trans (by apply_rules[uUe,uUa,uUb,uUc,uUd])).size
       all_goals try omega
       all_goals try (simp;omega;done)
       ·intro v' w4 hown' hgrow _
        rw[HTK.out] at hown';have HE:=hid (HFIN.out v' w4 hown' ((HU2.out.trans (by apply_rules[uUe,uUa,uUb,uUc,uUd])).grown hgrow (fun g hg=>owns_block HOP.out g hg)));clear hown' hgrow;go_wp2;rw[HRS.out];exact⟨HE.out,by simp[strN];omega⟩
    ·have q1:(kd==1)=false:=by simpa using k1
     have hti:St.tokI (kd,tx,id)=[]:=by unfold St.tokI;rw[if_neg (by simp only[not_or];exact⟨n2,n3,n4,n5⟩),if_neg k1]
     have HE:=hid (show TkRel w f n (.slice AO (St.tokL (f.take k)).length cO) (.int .i64 ((k:Int)+1)) wr from⟨k+1,by omega,congrArg (Value.int .i64) (by omega),by rw[HTK.out,hti,List.append_nil];exact HOW.out,HU.out⟩);have HE2:=hid (fun W (hW:Und wr W)=>(show TkRel w f n (.slice AO (St.tokL (f.take k)).length cO) (.int .i64 ((k:Int)+1)) W from⟨k+1,by omega,congrArg (Value.int .i64) (by omega),by rw[HTK.out,hti,List.append_nil];exact own_und hW HOW.out,HU.out.trans hW⟩));clear hti k1 n2 n3 n4 n5 HE;go_wp2;exact⟨HE2.out _ (by apply_rules[uUe,uUa,uUb,uUc,uUd]),by simp[intOf];omega⟩
  ·have hkn:k=n:=by omega
   subst hkn;have hft:f.take k=f:=List.take_of_length_le (by omega);have HE:=hid (show wr.ownsRow w.heap.size 104 3 (.slice AO (St.tokL (f.take k)).length cO) (St.tokL f).length (cellsIt (St.tokL f)) from by have:=HOW.out;rw[hft] at this;rw[hft];exact this);clear hlt hft;go_wp2;go_ret;exact⟨_,rfl,HE.out,HU.out⟩
end
section
theorem dtag_any(k:Int)(t:ByteArray)(i:Int)(w:World):Calls Tryz.prog 154 #[.agg #[.int .i64 k,.string t,.int .i64 i]] w fun e w'=>e=.returned (.bool (St.tagT k))/\Und w w':=by
 by_cases hk:k=2∨k=3∨k=4
 ·rcases hk with rfl|rfl|rfl <;>
  ·go_enter Tryz.func154,Tryz.ntmps154
   go_wp2;go_ret;exact⟨rfl,(by apply_rules[uUe,uUa,uUb,uUc,uUd])⟩
 ·simp only[not_or] at hk
  obtain⟨n2,n3,n4⟩:=hk;have q2:(k==2)=false:=by simpa using n2
  have q3:(k==3)=false:=by simpa using n3
  have q4:(k==4)=false:=by simpa using n4
  have hv:St.tagT k=false:=by unfold St.tagT;rw[q2,q3,q4];rfl
  rw[hv];clear n2 n3 n4 hv;go_enter Tryz.func154,Tryz.ntmps154;go_wp2;go_ret;exact⟨rfl,(by apply_rules[uUe,uUa,uUb,uUc,uUd])⟩
theorem xtag_any(k:Int)(t:ByteArray)(i:Int)(w:World):Calls Tryz.prog 138 #[.agg #[.int .i64 k,.string t,.int .i64 i]] w fun e w'=>e=.returned (.bool (St.tagT k))/\Und w w':=by
 by_cases hk:k=2∨k=3∨k=4
 ·rcases hk with rfl|rfl|rfl <;>
  ·go_enter Tryz.func138,Tryz.ntmps138
   go_wp2;go_ret;exact⟨rfl,(by apply_rules[uUe,uUa,uUb,uUc,uUd])⟩
 ·simp only[not_or] at hk
  obtain⟨n2,n3,n4⟩:=hk;have q2:(k==2)=false:=by simpa using n2
  have q3:(k==3)=false:=by simpa using n3
  have q4:(k==4)=false:=by simpa using n4
  have hv:St.tagT k=false:=by unfold St.tagT;rw[q2,q3,q4];rfl
  rw[hv];clear n2 n3 n4 hv;go_enter Tryz.func138,Tryz.ntmps138;go_wp2;go_ret;exact⟨rfl,(by apply_rules[uUe,uUa,uUb,uUc,uUd])⟩
theorem stag_any(k:Int)(t:ByteArray)(i:Int)(w:World):Calls Tryz.prog 191 #[.agg #[.int .i64 k,.string t,.int .i64 i]] w fun e w'=>e=.returned (.bool (St.tagT k))/\Und w w':=by
 by_cases hk:k=2∨k=3∨k=4
 ·rcases hk with rfl|rfl|rfl <;>
  ·go_enter Tryz.func191,Tryz.ntmps191
   go_wp2;go_ret;exact⟨rfl,(by apply_rules[uUe,uUa,uUb,uUc,uUd])⟩
 ·simp only[not_or] at hk
  obtain⟨n2,n3,n4⟩:=hk;have q2:(k==2)=false:=by simpa using n2
  have q3:(k==3)=false:=by simpa using n3
  have q4:(k==4)=false:=by simpa using n4
  have hv:St.tagT k=false:=by unfold St.tagT;rw[q2,q3,q4];rfl
  rw[hv];clear n2 n3 n4 hv;go_enter Tryz.func191,Tryz.ntmps191;go_wp2;go_ret;exact⟨rfl,(by apply_rules[uUe,uUa,uUb,uUc,uUd])⟩
theorem weight_any(k:Int)(t:ByteArray)(i:Int)(w:World):Calls Tryz.prog 139 #[.agg #[.int .i64 k,.string t,.int .i64 i]] w fun e w'=>e=.returned (.int .i64 ((St.weightK k:Nat):Int))/\Und w w':=by
 by_cases hk:k=6∨k=5∨k=7∨k=2∨k=3∨k=4∨k=9∨k=8
 ·rcases hk with rfl|rfl|rfl|rfl|rfl|rfl|rfl|rfl <;>
  ·go_enter Tryz.func139,Tryz.ntmps139
   go_wp2;go_ret;exact⟨rfl,(by apply_rules[uUe,uUa,uUb,uUc,uUd])⟩
 ·simp only[not_or] at hk
  obtain⟨n6,n5,n7,n2,n3,n4,n9,n8⟩:=hk;have q6:(k==6)=false:=by simpa using n6
  have q5:(k==5)=false:=by simpa using n5
  have q7:(k==7)=false:=by simpa using n7
  have q2:(k==2)=false:=by simpa using n2
  have q3:(k==3)=false:=by simpa using n3
  have q4:(k==4)=false:=by simpa using n4
  have q9:(k==9)=false:=by simpa using n9
  have q8:(k==8)=false:=by simpa using n8
  have hv:St.weightK k=0:=by unfold St.weightK;rw[if_neg (by omega),if_neg (by omega),if_neg n9,if_neg n8]
  rw[hv];clear n2 n3 n4 n5 n6 n7 n8 n9 hv;go_enter Tryz.func139,Tryz.ntmps139;go_wp2;go_ret;exact⟨rfl,(by apply_rules[uUe,uUa,uUb,uUc,uUd])⟩
theorem weight_le(k:Int):St.weightK k<=4:=by
 unfold St.weightK
 split
 ·omega
 ·split
  ·omega
  ·split
   ·omega
   ·split <;> omega
theorem total_take(l:List St.It)(k:Nat)(h:k<l.length):St.totalT (l.take (k+1))=St.totalT (l.take k)+St.weightK l[k].1:=by
 unfold St.totalT;rw[List.take_add_one,List.getElem?_eq_getElem h,List.map_append,List.sum_append];simp
theorem total_le:∀ l:List St.It,St.totalT l<=4*l.length
 | []=>by simp[St.totalT]
 | x :: l=>by
  have:=total_le l
  have:=weight_le x.1
  unfold St.totalT at *;rw[List.map_cons,List.sum_cons,List.length_cons];omega
def TtRel(w:World)(l:List St.It)(n:Nat)(s3 s8:Value)(wr:World):Prop:=∃ k:Nat,k<=n/\s8=.int .i64 k/\s3=.int .i64 ((St.totalT (l.take k):Nat):Int)/\Und w wr
theorem total_any(A:Option Addr)(n c:Nat)(l:List St.It)(w:World)(hn:l.length=n)(h:ItemsAt w A l)(hl:n<=1000000000) :
  Calls Tryz.prog 99 #[.slice A n c] w fun e w'=>e=.returned (.int .i64 ((St.totalT l:Nat):Int))/\Und w w':=by
 have H:=hid h;have HN:=hid hn;clear h hn;go_enter Tryz.func99,Tryz.ntmps99;go_wp2;go_loopw [3,8] (fun s3 s8 wr=>TtRel w l n s3 s8 wr) (fun _ s8 _=>n+1-(intOf s8).toNat)
 case atStart=>exact⟨0,by omega,rfl,rfl,Und.refl _⟩
 case round=>
  obtain⟨k,hk,rfl,rfl,hu⟩:=hrel;have HU:=hid hu;have hN:=HN.out
  by_cases hlt:k<n
  ·have hlt2:k<l.length:=by omega
   obtain⟨b,off,rfl,hb,hc⟩:=(H.out.und hu) (by omega);obtain⟨c0,c1,c2⟩:=hc k hlt2;have htk:=total_take l k hlt2;have htl:=total_le (l.take k);have hwl:=weight_le l[k].1;have htn:(l.take k).length=k:=by rw[List.length_take];omega
   generalize l[k]=x at c0 c1 c2 htk hwl;obtain⟨kd,tx,id⟩:=x;simp only at c0 c1 c2 htk hwl;haveI:LtW b wr:=LtW.of hb;have hW:=fun W=>weight_any kd ⟨tx.toArray⟩ id W
   generalize St.totalT (l.take k)=T at htk htl;generalize St.weightK kd=q at htk hwl hW;have HW:=hid hW;have HE:=hid htk;clear hc hu htk hW;go_wp2_with (go_at_call 139;refine(HW.out _).mono ?_;rintro e w' ⟨rfl,X,rfl⟩);exact⟨⟨k+1,by omega,congrArg (Value.int .i64) (by omega),congrArg (Value.int .i64) (by rw[HE.out];omega),HU.out.trans (by apply_rules[uUe,uUa,uUb,uUc,uUd])⟩,by simp[intOf];omega⟩
  ·have hkn:k=n:=by omega
   subst hkn;have hft:l.take k=l:=List.take_of_length_le (by omega);rw[hft];clear hlt hft;go_wp2;go_ret;exact⟨rfl,HU.out⟩
theorem bw_und(w:World)(e:TypeId)(s:ByteArray):Und w (Lib.bytesWorld w e s):=
 Und.mk ⟨rfl,rfl,rfl,by rw[Lib.bytesWorld_size];omega,fun k hk=>Lib.bytesWorld_at_old w e s k hk⟩
def LwRel(w:World)(s:ByteArray)(s10:Value)(wr:World):Prop:=
 ∃ (k:Nat) (cs:Array Value) (z:Nat),k<=s.size/\s10=.int .i64 k/\wr.heap[w.heap.size]?=some (.cells cs 5 (z,z+1))/\s.size<=z/\z=cs.size /\
  (∀ j (h:j<s.size),cs[j]?=some (.int .u8 ((if j<k then St.lowB s[j] else s[j]).toNat:Int)))/\Und w wr
theorem frozen_off{w:World}{b:Nat}{cs:Array Value}{T:TypeId}{z:Nat}(hb:w.heap[b]?=some (.cells cs T (z,z+1))){j:Nat}(hj:j<z):w.frozen? ⟨b,j,none⟩=false:=by
 simp[World.frozen?,hb];omega
theorem set_fr{w:World}{b:Nat}{cs:Array Value}{T:TypeId}{fr:Nat × Nat}(i:Nat)(v:Value)(hb:w.heap[b]?=some (.cells cs T fr)):(w.setCell ⟨b,i,none⟩ v).heap[b]?=some (.cells (cs.setIfInBounds i v) T fr):=by
 have hlt:=lt_of_heap hb;rw[Array.getElem?_eq_getElem hlt] at hb;simp[World.setCell,hlt] at hb ⊢;rw[Array.getElem_modify_self,hb]
theorem low_nat(c:UInt8):(St.lowB c).toNat=if 65<=c.toNat/\c.toNat<=90 then c.toNat+32 else c.toNat:=by
 unfold St.lowB
 split
 ·rw[UInt8.toNat_add]
  have:(32:UInt8).toNat=32:=rfl
  rw[this,Nat.mod_eq_of_lt (by omega)]
 ·rfl
theorem lower_any(s:ByteArray)(w:World)(hs:s.size<=4611686018427387904) :
  Calls Tryz.prog 207 #[.string s] w fun e w'=>e=.returned (.string ⟨(St.lowL s.data.toList).toArray⟩)/\Und w w':=by
 have hcv:=Lib.run_convert_string_bytes (P:=Tryz.prog) w 9 137 5 s Tryz.underlying9 Tryz.underlying137 Tryz.underlying5;have hnew:=Lib.bytesWorld_at_new w 5 s;have hu0:=bw_und w 5 s;have hz0:s.size<=(Lib.bytesCells w 5 s).size:=by unfold Lib.bytesCells;rw[Array.size_append,Array.size_map];exact Nat.le_add_right _ _
 have hc0:∀ j (h:j<s.size),(Lib.bytesCells w 5 s)[j]?=some (.int .u8 (s[j].toNat:Int)):=by
  intro j h;have:=Lib.bytesWorld_cell w 5 s j h
  rw[zcH hnew] at this;rw[this];have hl:j<s.data.toList.length:=by rw[St.len_list];exact h
  rw[List.getD_eq_getElem?_getD,List.getElem?_eq_getElem hl];rfl
 generalize Lib.bytesWorld w 5 s=w0 at hcv hnew hu0;generalize Lib.bytesCells w 5 s=cs0 at hnew hz0 hc0;generalize grownCap w s.size 0 5=cap at hcv;have HN:=hid hnew;have HU0:=hid hu0;have HZ:=hid hz0;have HC0:=hid hc0;clear hnew hu0 hz0 hc0;go_enter Tryz.func207,Tryz.ntmps207;go_wp2;go_loopw [10] (fun s10 wr=>LwRel w s s10 wr) (fun s10 _=>s.size+1-(intOf s10).toNat)
 case atStart=>exact⟨0,cs0,cs0.size,by omega,rfl,HN.out,HZ.out,rfl,fun j h=>by rw[HC0.out j h,if_neg (by omega)],HU0.out⟩
 case round=>
  obtain⟨k,cs,z,hk,rfl,hh,hz,hzc,hj,hu⟩:=hrel;have HU:=hid hu;have HH:=hid hh;have HJ:=hid hj;haveI:LtW w.heap.size wr:=LtW.of (lt_of_heap hh)
  by_cases hlt:k<s.size
  ·have g0:wr.cell? ⟨w.heap.size,k,none⟩=some (.int .u8 (s[k].toNat:Int)):=by
    rw[zcH hh k,hj k hlt,if_neg (by omega)]
   have f0:wr.frozen? ⟨w.heap.size,k,none⟩=false:=frozen_off hh (by omega);have hb:=s[k].toNat_lt
   have hfin:∀ W,(65<=s[k].toNat/\s[k].toNat<=90)->W=wr.setCell ⟨w.heap.size,k,none⟩ (.int .u8 ((s[k].toNat:Int)+32))->LwRel w s (.int .i64 ((k:Int)+1)) W:=by
    rintro W hc rfl;refine⟨k+1,cs.setIfInBounds k (.int .u8 ((s[k].toNat:Int)+32)),z,by omega,congrArg (Value.int .i64) (by omega),set_fr k _ HH.out,hz,by simp[hzc],fun j h=>?_,Und.mk (HU.out.below.setCell (p:=⟨w.heap.size,k,none⟩) (Nat.le_refl _) _)⟩
    by_cases e:j=k
    ·subst e
     rw[Array.getElem?_setIfInBounds_self_of_lt (by omega),if_pos (by omega),low_nat,if_pos hc];rfl
    ·rw[Array.getElem?_setIfInBounds_ne (by omega),HJ.out j h]
     by_cases h1:j<k
     ·rw[if_pos h1,if_pos (by omega)]
     ·rw[if_neg h1,if_neg (by omega)]
   have hstay:¬ (65<=s[k].toNat/\s[k].toNat<=90)->LwRel w s (.int .i64 ((k:Int)+1)) wr:=by
    intro hc;refine⟨k+1,cs,z,by omega,congrArg (Value.int .i64) (by omega),HH.out,hz,hzc,fun j h=>?_,HU.out⟩;rw[HJ.out j h]
    by_cases e:j=k
    ·subst e
     rw[if_neg (by omega),if_pos (by omega),low_nat,if_neg hc]
    ·by_cases h1:j<k
     ·rw[if_pos h1,if_pos (by omega)]
     ·rw[if_neg h1,if_neg (by omega)]
   have HF:=hid hfin;have HS:=hid hstay;clear hfin hstay hu hh hj;generalize s[k].toNat=c at g0 hb HF HS;rcases(show (65<=c/\c<=90)∨c<65∨90<c by omega) with hc|hc|hc
   ·have y1:65<=(c:Int):=by omega
    have y2:(c:Int)<=90:=by omega
    have y3:IntKind.u8.wrap ((c:Int)+97)=(c:Int)+97:=by simp[IntKind.wrap,IntKind.bits,IntKind.signed];omega
    have y4:IntKind.u8.wrap ((c:Int)+97-65)=(c:Int)+32:=by simp[IntKind.wrap,IntKind.bits,IntKind.signed];omega
    have hE:=hid (HF.out _ hc rfl);clear hc;go_wp2;exact⟨hE.out,by simp[intOf];omega⟩
   ·have y1:¬ 65<=(c:Int):=by omega
    have hE:=hid (HS.out (by omega));clear hc;go_wp2;exact⟨hE.out,by simp[intOf];omega⟩
   ·have y1:65<=(c:Int):=by omega
    have y2:¬ (c:Int)<=90:=by omega
    have hE:=hid (HS.out (by omega));clear hc;go_wp2;exact⟨hE.out,by simp[intOf];omega⟩
  ·have hks:k=s.size:=by omega
   have hl:(St.lowL s.data.toList).length=s.size:=by unfold St.lowL;rw[List.length_map,St.len_list]
   have hcb:=run_convert_bytes_back (P:=Tryz.prog) wr 137 9 5 ⟨w.heap.size,0,none⟩ cap (St.lowL s.data.toList) Tryz.underlying137 Tryz.underlying5 Tryz.underlying9 (fun j hj'=>by
    have hjs:j<s.size:=by rw[<- hl];exact hj'
    rw[show (⟨w.heap.size,0,none⟩:Addr).add j=⟨w.heap.size,j,none⟩ by (simp[Addr.add];try omega),zcH hh j,hj j hjs,if_pos (by omega)];have hg:(St.lowL s.data.toList)[j]=St.lowB (s.data.toList[j]'(by rw[St.len_list];exact hjs)):=List.getElem_map ..;rw[hg]
    rfl)
   rw[hl] at hcb;clear hlt hh hj hu hl;go_wp2;go_ret;exact⟨rfl,HU.out⟩
theorem key_any(k:Int)(t:List UInt8)(i:Int)(w:World)(ht:t.length<=4611686018427387904):Calls Tryz.prog 156 #[.agg #[.int .i64 k,.string ⟨t.toArray⟩,.int .i64 i]] w fun e w'=>e=.returned (.string ⟨(St.tkeyL (k,t,i)).toArray⟩)/\Und w w':=by
 by_cases h6:k=6
 ·subst h6
  have hL:=fun W=>lower_any ⟨t.toArray⟩ W (by show t.toArray.size<=_;simpa using ht)
  have hv:St.tkeyL (6,t,i)=St.lowL t:=by unfold St.tkeyL;rw[if_pos rfl]
  rw[hv];have he:(⟨t.toArray⟩:ByteArray).data.toList=t:=by simp
  rw[he] at hL;have HL:=hid hL;clear hL hv he;go_enter Tryz.func156,Tryz.ntmps156;go_wp2_with (go_at_call 207;refine(HL.out _).mono ?_;rintro e w' ⟨rfl,X,rfl⟩);go_ret;exact⟨rfl,(by apply_rules[uUe,uUa,uUb,uUc,uUd])⟩
 ·have q6:(k==6)=false:=by simpa using h6
  have hv:St.tkeyL (k,t,i)=t:=by unfold St.tkeyL;rw[if_neg h6]
  rw[hv];clear hv h6;go_enter Tryz.func156,Tryz.ntmps156;go_wp2;go_ret;exact⟨rfl,(by apply_rules[uUe,uUa,uUb,uUc,uUd])⟩
theorem single_any(k:Int)(t:ByteArray)(i:Int)(w:World):Calls Tryz.prog 100 #[.agg #[.int .i64 k,.string t,.int .i64 i]] w fun e w'=>e=.returned (.int .i64 ((St.singleT (k,t.data.toList,i):Nat):Int))/\Und w w':=by
 have hT:=fun W=>dtag_any k t i W
 have hW:=fun W=>weight_any k t i W
 have hv:St.singleT (k,t.data.toList,i)=if St.tagT k then 1 else St.weightK k:=rfl
 rw[hv];cases h:St.tagT k <;> rw[h] at hT
 ·simp only[Bool.false_eq_true,if_false]
  generalize St.weightK k=q at hW ⊢;have HT:=hid hT;have HW:=hid hW;clear hT hW h hv;go_enter Tryz.func100,Tryz.ntmps100;go_wp2_with (first|(go_at_call 154;refine(HT.out _).mono ?_;rintro e w' ⟨rfl,X,rfl⟩)|(go_at_call 139;refine(HW.out _).mono ?_;rintro e w' ⟨rfl,X,rfl⟩));go_ret;exact⟨rfl,(by apply_rules[uUe,uUa,uUb,uUc,uUd])⟩
 ·simp only[if_true]
  have HT:=hid hT;clear hT hW h hv;go_enter Tryz.func100,Tryz.ntmps100;go_wp2_with (go_at_call 154;refine(HT.out _).mono ?_;rintro e w' ⟨rfl,X,rfl⟩);go_ret;exact⟨rfl,(by apply_rules[uUe,uUa,uUb,uUc,uUd])⟩
theorem tsame_any(k:Int)(t:ByteArray)(i:Int)(k':Int)(t':ByteArray)(i':Int)(w:World):Calls Tryz.prog 155 #[.agg #[.int .i64 k,.string t,.int .i64 i],.agg #[.int .i64 k',.string t',.int .i64 i']] w fun e w'=>e=.returned (.bool (St.sameT (k,t.data.toList,i) (k',t'.data.toList,i')))/\Und w w':=by
 have hv:St.sameT (k,t.data.toList,i) (k',t'.data.toList,i')=(k==k' && t.toList==t'.toList):=by rw[Lib.toList_data,Lib.toList_data];rfl
 rw[hv];clear hv;cases e:k==k'
 ·simp only[Bool.false_and]
  go_enter Tryz.func155,Tryz.ntmps155;go_wp2;go_ret;exact⟨rfl,(by apply_rules[uUe,uUa,uUb,uUc,uUd])⟩
 ·simp only[Bool.true_and]
  generalize hb:(t.toList==t'.toList)=b;go_enter Tryz.func155,Tryz.ntmps155;go_wp2;go_ret;exact⟨rfl,(by apply_rules[uUe,uUa,uUb,uUc,uUd])⟩
end
section
def optN:Option Nat->Nat
 | some c=>c
 | none=>0
theorem cost_any(k:Int)(t:List UInt8)(i:Int)(k':Int)(t':List UInt8)(i':Int)(w:World)(ht:t.length<=4611686018427387904)(ht':t'.length<=4611686018427387904) :
  Calls Tryz.prog 101 #[.agg #[.int .i64 k,.string ⟨t.toArray⟩,.int .i64 i],.agg #[.int .i64 k',.string ⟨t'.toArray⟩,.int .i64 i']] w fun e w'=>e=.returned (.tuple #[.int .i64 ((optN (St.costT (k,t,i) (k',t',i')):Nat):Int),.bool (St.costT (k,t,i) (k',t',i')).isSome])/\Und w w':=by
 have hS:=fun W=>tsame_any k ⟨t.toArray⟩ i k' ⟨t'.toArray⟩ i' W
 simp only[List.toList_toArray] at hS;cases hs:St.sameT (k,t,i) (k',t',i') <;> rw[hs] at hS
 ·have HS:=hid hS
  clear hS
  by_cases hk:k=k'
  ·subst hk
   have q0:(k != k)=false:=by simp
   by_cases h6:k=6
   ·subst h6
    by_cases he:St.tkeyL (6,t,i)=St.tkeyL (6,t',i')
    ·have hc:St.costT (6,t,i) (6,t',i')=some 1:=by unfold St.costT;rw[if_neg (by rw[hs];simp),if_neg (by simp),if_pos rfl,if_pos he]
     rw[hc];have e1:(St.tkeyL (6,t,i)==St.tkeyL (6,t',i'))=true:=by rw[he];exact beq_self_eq_true _
     clear he hc hs;go_enter Tryz.func101,Tryz.ntmps101;go_wp2_with (go_at_call 155;refine(HS.out _).mono ?_;rintro e w' ⟨rfl,X,rfl⟩)
     first|refine wp_region_under2 (by kernel_rfl) (by kernel_rfl) ?_|refine wp_region_under (by kernel_rfl) (by kernel_rfl) ?_
     repeat (go_big_quiet_step (first|(go_at_call 156;exact Calls.under_of (key_any _ _ _ _ (by assumption)))))
     refine wpQuiet_nil ?_;rintro _ ⟨X,rfl⟩;go_wp2;go_ret2;exact⟨rfl,(by apply_rules[uUe,uUa,uUb,uUc,uUd])⟩
    ·have hc:St.costT (6,t,i) (6,t',i')=some 4:=by unfold St.costT;rw[if_neg (by rw[hs];simp),if_neg (by simp),if_pos rfl,if_neg he]
     rw[hc];have hW:=fun W=>weight_any 6 ⟨t.toArray⟩ i W
     rw[show St.weightK 6=4 from rfl] at hW;have e1:(St.tkeyL (6,t,i)==St.tkeyL (6,t',i'))=false:=by simpa using he
     have HW:=hid hW;clear he hc hs hW;go_enter Tryz.func101,Tryz.ntmps101;go_wp2_with (go_at_call 155;refine(HS.out _).mono ?_;rintro e w' ⟨rfl,X,rfl⟩)
     first|refine wp_region_under2 (by kernel_rfl) (by kernel_rfl) ?_|refine wp_region_under (by kernel_rfl) (by kernel_rfl) ?_
     repeat (go_big_quiet_step (first|(go_at_call 156;exact Calls.under_of (key_any _ _ _ _ (by assumption)))))
     refine wpQuiet_nil ?_;rintro _ ⟨X,rfl⟩;go_wp2_with (go_at_call 139;refine(HW.out _).mono ?_;rintro e w' ⟨rfl,X,rfl⟩);go_ret2;exact⟨rfl,(by apply_rules[uUe,uUa,uUb,uUc,uUd])⟩
   ·have q6:(k==6)=false:=by simpa using h6
    by_cases h7:k=7∨k=8∨k=9∨k=5
    ·have hsub:St.subK k=true:=by unfold St.subK;rcases h7 with rfl|rfl|rfl|rfl <;> rfl
     have hc:St.costT (k,t,i) (k,t',i')=some (St.weightK k):=by unfold St.costT;rw[if_neg (by rw[hs];simp),if_neg (by simp),if_neg h6,if_pos hsub]
     rw[hc];have hW:=fun W=>weight_any k ⟨t.toArray⟩ i W
     generalize hq:St.weightK k=q at hW;have HW:=hid hW;clear hW hc hs hsub hq;rcases h7 with e|e|e|e <;>
     ·first|have q7:(k==7)=true:=by (rw[e];rfl)|have q7:(k==7)=false:=by (rw[e];rfl)
      first|have q8:(k==8)=true:=by (rw[e];rfl)|have q8:(k==8)=false:=by (rw[e];rfl)
      first|have q9:(k==9)=true:=by (rw[e];rfl)|have q9:(k==9)=false:=by (rw[e];rfl)
      first|have q5:(k==5)=true:=by (rw[e];rfl)|have q5:(k==5)=false:=by (rw[e];rfl)
      clear e h6;go_enter Tryz.func101,Tryz.ntmps101;go_wp2_with (first|(go_at_call 155;refine(HS.out _).mono ?_;rintro e w' ⟨rfl,X,rfl⟩)|(go_at_call 139;refine(HW.out _).mono ?_;rintro e w' ⟨rfl,X,rfl⟩));go_ret2;exact⟨rfl,(by apply_rules[uUe,uUa,uUb,uUc,uUd])⟩
    ·simp only[not_or] at h7
     obtain⟨n7,n8,n9,n5⟩:=h7;have q7:(k==7)=false:=by simpa using n7
     have q8:(k==8)=false:=by simpa using n8
     have q9:(k==9)=false:=by simpa using n9
     have q5:(k==5)=false:=by simpa using n5
     have hc:St.costT (k,t,i) (k,t',i')=none:=by unfold St.costT;rw[if_neg (by rw[hs];simp),if_neg (by simp),if_neg h6,if_neg (by unfold St.subK;rw[q7,q8,q9,q5];simp)]
     rw[hc];clear hc hs n7 n8 n9 n5 h6;go_enter Tryz.func101,Tryz.ntmps101;go_wp2_with (go_at_call 155;refine(HS.out _).mono ?_;rintro e w' ⟨rfl,X,rfl⟩);go_ret2;exact⟨rfl,(by apply_rules[uUe,uUa,uUb,uUc,uUd])⟩
  ·have q0:(k != k')=true:=by simpa using hk
   have hc:St.costT (k,t,i) (k',t',i')=none:=by unfold St.costT;rw[if_neg (by rw[hs];simp),if_pos hk]
   rw[hc];clear hc hs hk;go_enter Tryz.func101,Tryz.ntmps101;go_wp2_with (go_at_call 155;refine(HS.out _).mono ?_;rintro e w' ⟨rfl,X,rfl⟩);go_ret2;exact⟨rfl,(by apply_rules[uUe,uUa,uUb,uUc,uUd])⟩
 ·have hc:St.costT (k,t,i) (k',t',i')=some 0:=by unfold St.costT;rw[if_pos hs]
  rw[hc];have HS:=hid hS;clear hS hc hs;go_enter Tryz.func101,Tryz.ntmps101;go_wp2_with (go_at_call 155;refine(HS.out _).mono ?_;rintro e w' ⟨rfl,X,rfl⟩);go_ret2;exact⟨rfl,(by apply_rules[uUe,uUa,uUb,uUc,uUd])⟩
end
section
theorem step_callF3{P:Program}{ops:Array Oper}{o:Oper}{a:Act}{w:World}{K:Act->World->Prop}{Q:Exit->Act->World->Prop}{E:Prop}
  (hg:o.guard=none) (f:FuncId) (args:Array Value) (Po:Ending->World->Prop) (hc:Calls P f args w Po)
  (hrun:(execOp a.eval o).run P w=.ok (.enter f args) w) (hK:∀ e w',Po e w'->∃ v,e=.returned v/\K (a.put o.dst v) w') :
  if Region.wanted o (yielded ops a.tmps)=true then Oper.wp P o a w K Q else E:=by
 have hw:Region.wanted o (yielded ops a.tmps)=true:=by simp[Region.wanted,hg]
 rw[if_pos hw];unfold Oper.wp;rw[hrun];refine hc.mono ?_;rintro e w' h;obtain⟨v,rfl,hk⟩:=hK e w' h;exact hk
theorem wr_i64{x:Int}(h1:-9223372036854775808<=x)(h2:x<=9223372036854775807):IntKind.i64.wrap x=x:=by rw[IntKind.wrap_i64];omega
namespace St
def dpP(a b:List Tk)(i j:Nat):Nat:=priceR (a.take i).reverse (b.take j).reverse
theorem rev_take{l:List Tk}{i:Nat}(h:i<l.length):(l.take (i+1)).reverse=l[i] :: (l.take i).reverse:=by
 rw[List.take_add_one,List.getElem?_eq_getElem h];simp
theorem dp_zero(a b:List Tk):dpP a b 0 0=0:=by simp[dpP,priceR]
theorem dp_row(a b:List Tk)(j:Nat)(h:j<b.length):dpP a b 0 (j+1)=dpP a b 0 j+singleT b[j]:=by
 unfold dpP;rw[rev_take h,List.take_zero,List.reverse_nil,priceR]
theorem dp_col(a b:List Tk)(i:Nat)(h:i<a.length):dpP a b (i+1) 0=dpP a b i 0+singleT a[i]:=by
 unfold dpP;rw[rev_take h,List.take_zero,List.reverse_nil,priceR]
theorem dp_step(a b:List Tk)(i j:Nat)(hi:i<a.length)(hj:j<b.length):dpP a b (i+1) (j+1) =
  match costT a[i] b[j] with
  | some c=>min (min (dpP a b i (j+1)+singleT a[i]) (dpP a b (i+1) j+singleT b[j])) (dpP a b i j+c)
  | none=>min (dpP a b i (j+1)+singleT a[i]) (dpP a b (i+1) j+singleT b[j]):=by
 unfold dpP;rw[rev_take hi,rev_take hj,priceR];cases costT a[i] b[j] <;> rfl
theorem single_le(t:Tk):singleT t<=4:=by
 have:=weight_le t.1
 unfold singleT
 split <;> omega
theorem dp_le(a b:List Tk):∀ i,i<=a.length->∀ j,j<=b.length->dpP a b i j<=4*(i+j)
 | 0,_,0,_=>by rw[dp_zero];omega
 | 0,hi,j+1,hj=>by
  rw[dp_row a b j (by omega)];have:=dp_le a b 0 hi j (by omega)
  have:=single_le (b[j]'(by omega))
  omega
 | i+1,hi,0,_=>by
  rw[dp_col a b i (by omega)];have:=dp_le a b i (by omega) 0 (by omega)
  have:=single_le (a[i]'(by omega))
  omega
 | i+1,hi,j+1,hj=>by
  rw[dp_step a b i j (by omega) (by omega)];have:=dp_le a b i (by omega) (j+1) hj
  have:=single_le (a[i]'(by omega))
  split
  ·exact Nat.le_trans (Nat.le_trans (Nat.min_le_left _ _) (Nat.min_le_left _ _)) (by omega)
  ·exact Nat.le_trans (Nat.min_le_left _ _) (by omega)
theorem dp_all(a b:List Tk):dpP a b a.length b.length=priceR a.reverse b.reverse:=by unfold dpP;rw[List.take_length,List.take_length]
end St
def RowAt(w:World)(g m:Nat)(f:Nat->Nat):Prop:=∃ cs:Array Value,w.heap[g]?=some (.cells cs 3 (0,0))/\cs.size=m/\∀ j,j<m->cs[j]?=some (.int .i64 ((f j:Nat):Int))
theorem RowAt.lt{w:World}{g m:Nat}{f:Nat->Nat}(h:RowAt w g m f):g<w.heap.size:=by obtain⟨_,h,_⟩:=h;exact lt_of_heap h
theorem RowAt.und{w w':World}{g m:Nat}{f:Nat->Nat}(h:RowAt w g m f)(u:Und w w'):RowAt w' g m f:=by
 obtain⟨cs,h1,h2⟩:=h;exact⟨cs,(u.below.block g (lt_of_heap h1)).trans h1,h2⟩
theorem RowAt.cell{w:World}{g m:Nat}{f:Nat->Nat}(h:RowAt w g m f){j:Nat}(hj:j<m):w.cell? ⟨g,j,none⟩=some (.int .i64 ((f j:Nat):Int)):=by
 obtain⟨cs,h1,_,h3⟩:=h;rw[zcH h1 j];exact h3 j hj
theorem RowAt.free{w:World}{g m:Nat}{f:Nat->Nat}(h:RowAt w g m f)(j:Nat):w.frozen? ⟨g,j,none⟩=false:=by
 obtain⟨cs,h1,_⟩:=h;exact zfH h1 j
theorem RowAt.set{w:World}{g m:Nat}{f:Nat->Nat}(h:RowAt w g m f)(i v:Nat){f':Nat->Nat}(hi:f' i=v)(ho:∀ j,j ≠ i->j<m->f' j=f j):RowAt (w.setCell ⟨g,i,none⟩ (.int .i64 (v:Int))) g m f':=by
 obtain⟨cs,h1,h2,h3⟩:=h;refine⟨_,heap_setCell_same w g i _ _ _ h1,by simp[h2],fun j hj=>?_⟩
 by_cases e:j=i
 ·subst e;rw[Array.getElem?_setIfInBounds_self_of_lt (by omega),hi]
 ·rw[Array.getElem?_setIfInBounds_ne (Ne.symm e),h3 j hj,ho j e hj]
theorem RowAt.same{w:World}{g m:Nat}{f f':Nat->Nat}(h:RowAt w g m f)(e:∀ j,j<m->f' j=f j):RowAt w g m f':=by
 obtain⟨cs,h1,h2,h3⟩:=h;exact⟨cs,h1,h2,fun j hj=>by rw[h3 j hj,e j hj]⟩
theorem RowAt.set_und{w W:World}{g:Nat}(h:Und w W)(hg:w.heap.size<=g)(i:Nat)(v:Value):Und w (W.setCell ⟨g,i,none⟩ v):=Und.mk (h.below.setCell (p:=⟨g,i,none⟩) hg _)
theorem set_ne{W:World}{g b o i:Nat}(v:Value)(h:b ≠ g):(W.setCell ⟨g,i,none⟩ v).cell? ⟨b,o,none⟩=W.cell? ⟨b,o,none⟩:=by
 unfold World.cell?;rw[show (W.setCell ⟨g,i,none⟩ v).heap[b]?=W.heap[b]? from heap_setCell_other W ⟨g,i,none⟩ b v h]
end
end Go.Proofs.YtcfhfdphoidaeaaGreatDoor
