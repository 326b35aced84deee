/- The contracts of item's name and IsContent, and of the library's Cut at a blank. -/
import Derived.Test.YtcfhfdphoidaeaaGreatDoorRefCheck
import Derived.Test.YtcfhfdphoidaeaaGreatDoorShelf
import Derived.Lib.IndexBytes
import Derived.BigQuiet
set_option linter.unusedVariables false
set_option linter.unusedSimpArgs false
set_option maxHeartbeats 12800000
namespace Go.Proofs.YtcfhfdphoidaeaaGreatDoor
open Go.RowKit
section
namespace St
theorem index_sp:∀ l:List UInt8,Lib.indexByte l 32=if (nameOf l).length<l.length then ((nameOf l).length:Int) else -1
 | []=>rfl
 | c :: l=>by
  unfold Lib.indexByte
  by_cases h:c.toNat=32
  ·have h2:c=32:=by apply UInt8.toNat_inj.1;simpa using h
   subst h2;simp[nameOf]
  ·have h2:¬ c=32:=fun e=>h (by rw[e];rfl)
   have h3:(c==32)=false:=by simpa using h2
   have e:(nameOf (c :: l)).length=(nameOf l).length+1:=by unfold nameOf;rw[List.takeWhile_cons_of_pos (by simpa using h),List.length_cons]
   rw[h3,index_sp l,e];simp only[List.length_cons,Bool.false_eq_true,if_false]
   by_cases h4:(nameOf l).length<l.length
   ·rw[if_pos h4,if_neg (by simp <;> omega),if_pos (by omega)];try simp
   ·rw[if_neg h4,if_pos (by simp),if_neg (by omega)]
theorem name_pre(l:List UInt8):nameOf l=l.take (nameOf l).length:=List.prefix_iff_eq_take.1 (List.takeWhile_prefix _)
theorem name_le(l:List UInt8):(nameOf l).length<=l.length:=(List.takeWhile_prefix _).length_le
theorem brace_ix(c:UInt8):Lib.indexByte [60,62,123,125] c<0 ↔ (c.toNat ≠ 60/\c.toNat ≠ 62/\c.toNat ≠ 123/\c.toNat ≠ 125):=by
 by_cases h1:c=60
 ·subst h1;decide
 by_cases h2:c=62
 ·subst h2;decide
 by_cases h3:c=123
 ·subst h3;decide
 by_cases h4:c=125
 ·subst h4;decide
 have b1:((60:UInt8)==c)=false:=by simpa using fun e=>h1 e.symm
 have b2:((62:UInt8)==c)=false:=by simpa using fun e=>h2 e.symm
 have b3:((123:UInt8)==c)=false:=by simpa using fun e=>h3 e.symm
 have b4:((125:UInt8)==c)=false:=by simpa using fun e=>h4 e.symm
 have hi:Lib.indexByte [60,62,123,125] c=-1:=by simp[Lib.indexByte,b1,b2,b3,b4]
 rw[hi];exact⟨fun _=>⟨fun e=>h1 (UInt8.toNat_inj.1 e),fun e=>h2 (UInt8.toNat_inj.1 e),fun e=>h3 (UInt8.toNat_inj.1 e),fun e=>h4 (UInt8.toNat_inj.1 e)⟩,fun _=>by decide⟩
end St
def CutSp(s x y:ByteArray)(f:Bool):Prop:=x.data.toList=St.nameOf s.data.toList/\f=decide (x.size<s.size)/\y.size=s.size-x.size-1
theorem cutsp0_any(s:ByteArray)(w:World)(hs:s.size<=4611686018427387904):Calls Tryz.prog 234 #[.string s,.string ⟨#[32]⟩] w fun e w'=>∃ (x y:ByteArray) (f:Bool),e=.returned (.tuple #[.string x,.string y,.bool f])/\CutSp s x y f/\Und w w':=by
 have hix:∀ W,Calls Tryz.prog 210 #[.string s,.string ⟨#[32]⟩] W fun e w'=>e=.returned (.int .i64 (Lib.indexByte s.data.toList 32))/\w'=W:=fun W=>Tryz.stringslite_Index_one s 32 W
 rw[St.index_sp] at hix;have hle:=St.name_le s.data.toList;rw[St.len_list] at hle
 by_cases h:(St.nameOf s.data.toList).length<s.data.toList.length
 ·rw[if_pos h] at hix
  have h2:(St.nameOf s.data.toList).length<s.size:=by rw[St.len_list] at h;exact h
  have hx:CutSp s (s.extract 0 (St.nameOf s.data.toList).length) (s.extract ((St.nameOf s.data.toList).length+1) s.size) true:=by
   refine⟨?_,?_,?_⟩
   ·rw[Lib.extract_data]
    conv=>rhs;rw[St.name_pre]
    simp
   ·rw[ByteArray.size_extract];simp;omega
   ·rw[ByteArray.size_extract,ByteArray.size_extract];omega
  generalize (St.nameOf s.data.toList).length=n at *;have HX:=hid hx;have HIX:=hid hix;have y1:(n:Int)<=s.size:=by omega
  have y2:(n:Int)+1<=s.size:=by omega
  clear hx hix h hle;go_enter Tryz.func234,Tryz.ntmps234;go_wp2_with (go_at_call 210;refine(HIX.out _).mono ?_;rintro e w' ⟨rfl,rfl⟩);go_quiet (fail);go_wp2;go_ret3;exact⟨_,_,_,rfl,HX.out,(Und.refl _).drewN _⟩
 ·rw[if_neg h] at hix
  have hx:CutSp s s ⟨#[]⟩ false:=by
   refine⟨?_,by simp,show 0=_ by omega⟩
   conv=>rhs;rw[St.name_pre]
   exact(List.take_of_length_le (by omega)).symm
  generalize (St.nameOf s.data.toList).length=n at *;have HX:=hid hx;have HIX:=hid hix;clear hx hix h hle;go_enter Tryz.func234,Tryz.ntmps234;go_wp2_with (go_at_call 210;refine(HIX.out _).mono ?_;rintro e w' ⟨rfl,rfl⟩);go_ret3;exact⟨_,_,_,rfl,HX.out,Und.refl _⟩
theorem cutsp_any(s:ByteArray)(w:World)(hs:s.size<=4611686018427387904):Calls Tryz.prog 206 #[.string s,.string ⟨#[32]⟩] w fun e w'=>∃ (x y:ByteArray) (f:Bool),e=.returned (.tuple #[.string x,.string y,.bool f])/\CutSp s x y f/\Und w w':=by
 have HC:=hid (cutsp0_any s w hs);go_enter Tryz.func206,Tryz.ntmps206;go_wp2_with fail;refine HC.out.mono ?_;rintro e w' ⟨x,y,f,rfl,hx,hu⟩;have HX:=hid hx;have HU:=hid hu;clear hu;clear hx;go_wp2
 first|go_ret|go_ret3
 exact⟨x,y,f,rfl,HX.out,HU.out⟩
theorem iname_any(t:List UInt8)(w:World)(hs:t.length<=4611686018427387904):Calls Tryz.prog 153 #[.string ⟨t.toArray⟩] w fun e w'=>e=.returned (.string ⟨(St.nameOf t).toArray⟩)/\Und w w':=by
 have HC:=hid (cutsp_any ⟨t.toArray⟩ w (by show t.toArray.size<=_;simpa using hs));go_enter Tryz.func153,Tryz.ntmps153;go_wp2_with fail;refine HC.out.mono ?_;rintro e w' ⟨x,y,f,rfl,hx,hu⟩;have HX:=hid (show x=⟨(St.nameOf t).toArray⟩ by rw[<- ba_eta x,hx.1]);have HU:=hid hu;clear hu hx;go_wp2;go_ret;exact⟨by rw[HX.out];rfl,HU.out⟩
theorem icontent_any(s:ByteArray)(w:World)(hs:s.size<=4611686018427387904):Calls Tryz.prog 152 #[.string s] w fun e w'=>e=.returned (.bool (St.isContentL s.data.toList))/\Und w w':=by
 have HLEN:=hid (St.len_list s)
 by_cases h64:64<s.size
 ·have z:(64:Int)<s.size:=by omega
  have hr:=hid (show St.isContentL s.data.toList=false by unfold St.isContentL;rw[HLEN.out,decide_eq_false (by omega)];rfl);go_enter Tryz.func152,Tryz.ntmps152;go_wp2;go_ret;exact⟨ret_bool hr.out.symm,(by apply_rules[uUe,uUa,uUb,uUc,uUd])⟩
 have z:¬ (64:Int)<s.size:=by omega
 by_cases h0:s.size=0
 ·have z0:((s.size:Int)==0)=true:=by rw[h0];rfl
  have hr:=hid (show St.isContentL s.data.toList=false by
   have:s.data.toList=[]:=List.eq_nil_of_length_eq_zero (by rw[HLEN.out];exact h0)
   rw[this];decide)
  go_enter Tryz.func152,Tryz.ntmps152;go_wp2;go_ret;exact⟨ret_bool hr.out.symm,(by apply_rules[uUe,uUa,uUb,uUc,uUd])⟩
 have z0:((s.size:Int)==0)=false:=beq_eq_false_iff_ne.2 (by omega);obtain⟨m,hm⟩:∃ m,s.size=m+1:=⟨s.size-1,by omega⟩;have hml:m<s.size:=by omega
 have hlast:s.data.toList.getLast?=some s[m]:=by
  rw[List.getLast?_eq_getElem?,HLEN.out,show s.size-1=m by omega];exact List.getElem?_eq_getElem (by rw[HLEN.out];exact hml)
 have z3:(s.size:Int)-1=(m:Int):=by omega
 have z4:(m:Int)<s.size:=by omega
 clear hm
 by_cases q3:s[m].toNat=47
 ·have p3:((s[m].toNat:Int)==47)=true:=by simp;omega
  have hr:=hid (show St.isContentL s.data.toList=false by
   have e:s[m]=47:=by apply UInt8.toNat_inj.1;simpa using q3
   unfold St.isContentL
   rw[hlast,e];simp)
  clear hlast;go_enter Tryz.func152,Tryz.ntmps152;go_wp2;go_ret;exact⟨ret_bool hr.out.symm,(by apply_rules[uUe,uUa,uUb,uUc,uUd])⟩
 have p3:((s[m].toNat:Int)==47)=false:=by simp;omega
 have hl47:(s.data.toList.getLast? != some 47)=true:=by
  rw[hlast];have:s[m] ≠ 47:=fun e=>q3 (by rw[e];rfl)
  simpa using this
 have HL47:=hid hl47;clear hl47 hlast q3;go_enter Tryz.func152,Tryz.ntmps152;go_wp2;go_loopw [3] (fun i wr=>CoRel s i/\Und w wr) (fun i _=>s.size+1-(intOf i).toNat)
 case atStart=>exact⟨⟨0,rfl,by omega,rfl⟩,Und.refl _⟩
 case round=>
  obtain⟨⟨k,rfl,hk,hl⟩,hu⟩:=hrel;have HL:=hid hl;have HU:=hid hu;clear hl hu
  by_cases hlt:k<s.size
  ·have hcons:=St.drop_at s k hlt
   have z1:(k:Int)<s.size:=by omega
   have hix:=fun W=>Tryz.strings_IndexByte ⟨#[60,62,123,125]⟩ (s[k].toNat:Int) W
   have hbk:((s[k].toNat:Int).toNat.toUInt8)=s[k]:=by simp
   have hiv:=St.brace_ix s[k];rw[hbk,show (⟨#[60,62,123,125]⟩:ByteArray).data.toList=[60,62,123,125] from rfl] at hix;generalize Lib.indexByte [60,62,123,125] s[k]=v at hix hiv;have HIX:=hid hix;cases hcc:St.contentC s[k]
   ·have hr:=hid (content_no (s:=s.data.toList) (by rw[HL.out,hcons];simp[hcc]))
    have hcc':=of_decide_eq_false hcc;clear hcons hcc hix hbk
    by_cases q1:s[k].toNat<32
    ·have p1:(s[k].toNat:Int)<32:=by omega
     go_wp2;go_ret;exact⟨ret_bool hr.out.symm,HU.out⟩
    ·have p1:¬ (s[k].toNat:Int)<32:=by omega
     by_cases q2:126<s[k].toNat
     ·have p2:(126:Int)<(s[k].toNat:Int):=by omega
      go_wp2;go_ret;exact⟨ret_bool hr.out.symm,HU.out⟩
     ·have p2:¬ (126:Int)<(s[k].toNat:Int):=by omega
      have hv:0<=v:=by
       refine Int.not_lt.1 fun h=>?_
       have:=hiv.1 h
       omega
      clear hiv hcc';go_wp2_with fail;refine(HIX.out _).mono ?_;rintro e w' ⟨rfl,rfl⟩;go_wp2;go_ret;exact⟨ret_bool hr.out.symm,HU.out⟩
   ·have hl2:=hid (show s.data.toList.all St.contentC=(s.data.toList.drop (k+1)).all St.contentC by rw[HL.out,hcons];simp[hcc])
    have hcc':=of_decide_eq_true hcc;have p1:¬ (s[k].toNat:Int)<32:=by omega
    have p2:¬ (126:Int)<(s[k].toNat:Int):=by omega
    have hv:¬ 0<=v:=by
     have:=hiv.2 ⟨hcc'.2.2.1,hcc'.2.2.2.1,hcc'.2.2.2.2.1,hcc'.2.2.2.2.2⟩
     omega
    clear hcons hcc hcc' hix hbk hiv;go_wp2_with fail;refine(HIX.out _).mono ?_;rintro e w' ⟨rfl,rfl⟩;go_wp2;exact⟨⟨⟨k+1,congrArg (Value.int .i64) (by omega),by omega,hl2.out⟩,HU.out⟩,by simp[intOf];omega⟩
  ·have hke:k=s.size:=by omega
   subst hke;have hall:s.data.toList.all St.contentC=true:=by rw[HL.out,List.drop_of_length_le (by simp)];rfl
   have hr:St.isContentL s.data.toList=(St.isNameL (St.nameOf s.data.toList) && (decide ((St.nameOf s.data.toList).length=s.size) || decide ((St.nameOf s.data.toList).length+1<s.size))):=by
    unfold St.isContentL;rw[HLEN.out,decide_eq_true (by omega),hall,HL47.out];simp
   have HR:=hid hr;have HC:=hid (cutsp_any s wr hs);have y0:¬ (s.size:Int)<s.size:=by omega
   clear hr hall hlt hk;go_wp2_with fail;refine HC.out.mono ?_;rintro e w' ⟨x,y,f,rfl,⟨hx1,hx2,hx3⟩,hu⟩;have HU2:=hid (HU.out.trans hu);have hxl:=St.len_list x;rw[hx1] at hxl;have hnl:=St.name_le s.data.toList;rw[HLEN.out,hxl] at hnl;have hin:=isname_any x w' (by omega);rw[hx1] at hin;have HIN:=hid hin;rw[hxl] at HR;clear hin hx1 hu HC hxl;generalize St.isNameL (St.nameOf s.data.toList)=b1 at HIN HR;cases b1
   ·go_wp2_with fail
    refine HIN.out.mono ?_;rintro e w' ⟨rfl,rfl⟩;go_wp2;go_ret;exact⟨ret_bool (by rw[HR.out];rfl),HU2.out⟩
   ·by_cases q1:x.size=s.size
    ·have hf:f=false:=by rw[hx2];exact decide_eq_false (by omega)
     subst hf;rw[decide_eq_true q1] at HR;clear hx2 hx3;go_wp2_with fail;refine HIN.out.mono ?_;rintro e w' ⟨rfl,rfl⟩;go_wp2;go_ret;exact⟨ret_bool (by rw[HR.out];rfl),HU2.out⟩
    ·have hf:f=true:=by rw[hx2];exact decide_eq_true (by omega)
     subst hf;rw[decide_eq_false q1] at HR
     by_cases q2:x.size+1<s.size
     ·have p2:(0:Int)<y.size:=by omega
      rw[decide_eq_true q2] at HR;clear hx2 hx3;go_wp2_with fail;refine HIN.out.mono ?_;rintro e w' ⟨rfl,rfl⟩;go_wp2;go_ret;exact⟨ret_bool (by rw[HR.out,decide_eq_true (show 0<y.size by omega)];rfl),HU2.out⟩
     ·have p2:¬ (0:Int)<y.size:=by omega
      rw[decide_eq_false q2] at HR;clear hx2 hx3;go_wp2_with fail;refine HIN.out.mono ?_;rintro e w' ⟨rfl,rfl⟩;go_wp2;go_ret;exact⟨ret_bool (by rw[HR.out,decide_eq_false (show ¬ 0<y.size by omega)];rfl),HU2.out⟩
end
section
theorem itag_any(k:Int)(t:ByteArray)(i:Int)(w:World):Calls Tryz.prog 72 #[.agg #[.int .i64 k,.string t,.int .i64 i]] w fun e w'=>e=.returned (.bool (St.isTagK k))/\Und w w':=by
 by_cases h2:k=2
 ·subst h2
  go_enter Tryz.func72,Tryz.ntmps72;go_wp2;go_ret;exact⟨rfl,(by apply_rules[uUe,uUa,uUb,uUc,uUd])⟩
 ·have z2:(k==2)=false:=by simpa using h2
  by_cases h3:k=3
  ·subst h3
   go_enter Tryz.func72,Tryz.ntmps72;go_wp2;go_ret;exact⟨rfl,(by apply_rules[uUe,uUa,uUb,uUc,uUd])⟩
  ·have z3:(k==3)=false:=by simpa using h3
   by_cases h4:k=4
   ·subst h4
    go_enter Tryz.func72,Tryz.ntmps72;go_wp2;go_ret;exact⟨rfl,(by apply_rules[uUe,uUa,uUb,uUc,uUd])⟩
   ·have z4:(k==4)=false:=by simpa using h4
    have hr:=hid (show St.isTagK k=false by unfold St.isTagK;simp[h2,h3,h4]);clear h2 h3 h4;go_enter Tryz.func72,Tryz.ntmps72;go_wp2;go_ret;exact⟨ret_bool hr.out.symm,(by apply_rules[uUe,uUa,uUb,uUc,uUd])⟩
theorem iwidth_any(k:Int)(t:List UInt8)(i:Int)(w:World):Calls Tryz.prog 116 #[.agg #[.int .i64 k,.string ⟨t.toArray⟩,.int .i64 i]] w fun e w'=>e=.returned (.int .i64 (St.widthI (k,t,i):Nat))/\Und w w':=by
 have htz:(⟨t.toArray⟩:ByteArray).size=t.length:=by show t.toArray.size=_;simp
 by_cases h:k=1
 ·subst h
  have hr:=hid (show St.widthI (1,t,i)=t.length by unfold St.widthI;simp);go_enter Tryz.func116,Tryz.ntmps116;go_wp2;go_ret;exact⟨ret_int (by rw[hr.out,<- htz]),(by apply_rules[uUe,uUa,uUb,uUc,uUd])⟩
 ·have z:(k==1)=false:=by simpa using h
  have hr:=hid (show St.widthI (k,t,i)=1 by unfold St.widthI;simp[h]);clear h;go_enter Tryz.func116,Tryz.ntmps116;go_wp2;go_ret;exact⟨ret_int (by rw[hr.out];rfl),(by apply_rules[uUe,uUa,uUb,uUc,uUd])⟩
def IlRel(w:World)(f:List St.It)(s3 s8:Value)(wr:World):Prop:=∃ k:Nat,k<=f.length/\s8=.int .i64 k/\s3=.int .i64 (St.lenL (f.take k):Nat)/\Und w wr
theorem lenL_le(f:List St.It)(k:Nat):St.lenL (f.take k)<=St.lenL f:=by
 have:St.lenL f=St.lenL (f.take k)+St.lenL (f.drop k):=by
  conv=>lhs;rw[<- List.take_append_drop k f]
  unfold St.lenL;rw[List.map_append,List.sum_append]
 omega
theorem ilength_any(A:Option Addr)(n c:Nat)(f:List St.It)(w:World)(hn:f.length=n)(h:ItemsAt w A f)(hl:n<=1000000000000)(ht:tot f<=4611686018427387904) :
  Calls Tryz.prog 55 #[.slice A n c] w fun e w'=>e=.returned (.int .i64 (St.lenL f:Nat))/\Und w w':=by
 have H:=hid h;have HN:=hid hn;have hll:=lenL_tot f;clear h hn;go_enter Tryz.func55,Tryz.ntmps55;go_wp2;go_loopw [3,8] (fun s3 s8 wr=>IlRel w f s3 s8 wr) (fun _ s8 _=>n+1-(intOf s8).toNat)
 case atStart=>exact⟨0,by omega,rfl,rfl,Und.refl _⟩
 case round=>
  obtain⟨k,hk,rfl,rfl,hu⟩:=hrel;have HU:=hid hu;clear hu;have hN:=HN.out
  by_cases hlt:k<n
  ·have hlt2:k<f.length:=by omega
   obtain⟨b,off,rfl,hb,hc⟩:=(H.out.und HU.out) (by omega);obtain⟨c0,c1,c2⟩:=hc k hlt2;have hlk:=lenL_take f k hlt2;have hle:=lenL_le f (k+1);have hxl:=tot_at f k hlt2;have hT:=tot_le f k;generalize f[k]=x at c0 c1 c2 hlk hxl;obtain⟨kd,tx,id⟩:=x;simp only at c0 c1 c2 hxl;have hwd:=hid (fun W=>iwidth_any kd tx id W);generalize St.widthI (kd,tx,id)=wd at hwd hlk;haveI:LtW b wr:=LtW.of hb;have hlk2:((St.lenL (f.take (k+1)):Nat):Int)=((St.lenL (f.take k):Nat):Int)+(wd:Int):=by omega
   have HLK:=hid hlk2;have hsm:St.lenL (f.take k)+wd<=4611686018427387904+1000000000000:=by omega
   generalize St.lenL (f.take k)=m at HLK hsm ⊢;clear hc hlt2 hlk hlk2 hle hll hxl hT;go_wp2_with fail;refine(hwd.out _).mono ?_;rintro e w3 ⟨rfl,hu3⟩;have HU3:=hid (HU.out.trans (Und.trans ((by apply_rules[uUe,uUa,uUb,uUc,uUd])) hu3));clear hu3 c0 c1 c2;go_wp2;exact⟨⟨k+1,by omega,congrArg (Value.int .i64) (by omega),by rw[HLK.out],HU3.out⟩,by simp[intOf];omega⟩
  ·have hkn:k=n:=by omega
   subst hkn;have hr:=hid (show St.lenL (f.take k)=St.lenL f by rw[List.take_of_length_le (by omega)]);clear hlt hll;go_wp2;go_ret;exact⟨ret_int (by rw[hr.out]),HU.out⟩
end
end Go.Proofs.YtcfhfdphoidaeaaGreatDoor
