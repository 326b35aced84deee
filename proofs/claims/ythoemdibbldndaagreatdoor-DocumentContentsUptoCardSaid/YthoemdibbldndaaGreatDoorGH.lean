/- The contracts of the reference's begins, text, slot and sheet element: what they give is. -/
import Derived.Laws.BytesArg
import Derived.WalkSpells
import Derived.Lib.Strings
import Derived.Lib.IndexBytes
import Derived.Outline
import Derived.IntWalk
import Derived.Test.YthoemdibbldndaaGreatDoorGB
import Derived.Lib.ItoaNum
set_option linter.unusedVariables false
set_option linter.unusedSimpArgs false
set_option maxHeartbeats 12800000
set_option maxRecDepth 20000
namespace Go.Proofs.YthoemdibbldndaaGreatDoor
open Go.RowKit
section
def itv(k:Int)(t:List UInt8):Value:=.agg #[.int .i64 k,.string ⟨t.toArray⟩,.int .i64 0]
def elV:St.El->Value
 | none=>.tuple #[.agg #[.int .i64 0,.string ⟨#[]⟩,.int .i64 0],.int .i64 0]
 | some (k,t,n)=>.tuple #[itv k t,.int .i64 n]
theorem elV_form(E:St.El):∃ (k:Int) (x:ByteArray) (m:Int),elV E=.tuple #[.agg #[.int .i64 k,.string x,.int .i64 0],.int .i64 m]:=by
 rcases E with _|⟨k,t,n⟩
 ·exact⟨_,_,_,rfl⟩
 ·exact⟨_,_,_,rfl⟩
theorem text_any(c:UInt8)(w:World):Calls Tryz.prog 179 #[.int .u8 (c.toNat:Int)] w fun e w'=>e=.returned (itv 1 [c])/\Und w w':=by
 go_enter Tryz.func179,Tryz.ntmps179;go_wp2;exact bodyPost_ret (v:=itv 1 [c]) (by simp[results,Tryz.results179,go_sem,itv]) rfl ⟨rfl,(by apply_rules[uUe,uUa,uUb,uUc,uUd])⟩
theorem begins_any(s t:ByteArray)(w:World)(hs:s.size<=9223372036854775807)(ht:t.size<=9223372036854775807):Calls Tryz.prog 135 #[.string s,.string t] w fun e w'=>e=.returned (.bool (preB t s))/\w=w':=by
 by_cases h:t.size<=s.size
 ·have z:(t.size:Int)<=(s.size:Int):=by omega
  go_enter Tryz.func135,Tryz.ntmps135;go_wp2;go_ret;refine⟨ret_bool ?_,rfl⟩;unfold preB;rw[Lib.toList_data,Lib.toList_data,Lib.extract_data,<- St.pre_take];simp
 ·have z:¬ (t.size:Int)<=(s.size:Int):=by omega
  have H:=hid h;clear h;have hz:preB t s=false:=St.pre_long _ _ (by have:=H.out;simp;omega);go_enter Tryz.func135,Tryz.ntmps135;go_wp2;go_ret;exact⟨ret_bool (by first|rfl|exact hz.symm),rfl⟩
def twL(l:List UInt8):List UInt8:=l.takeWhile (fun c=>decide (c.toNat ≠ 125))
def SlRel(s:ByteArray)(w:World)(i:Value)(wr:World):Prop:=
 ∃ k:Nat,i=.int .i64 k/\1<=k/\k<=26/\(twL (s.data.toList.drop 1)).length=(k-1)+(twL (s.data.toList.drop k)).length/\(w.alloc (.cells #[.int .i64 0,.string ⟨#[]⟩,.int .i64 0] 36))=wr
theorem slot_none1{l:List UInt8}(h:¬ (twL (l.drop 1)).length+1<l.length):St.slotL l=none:=by
 unfold St.slotL;simp only[];have e:decide ((twL (l.drop 1)).length+1<l.length)=false:=decide_eq_false h;unfold twL at e;rw[e];rfl
theorem slot_none2{l:List UInt8}(h:St.isNameL (twL (l.drop 1))=false):St.slotL l=none:=by
 unfold St.slotL;simp only[];unfold twL at h;rw[h];simp
theorem slot_some{l:List UInt8}(h1:(twL (l.drop 1)).length+1<l.length)(h:St.isNameL (twL (l.drop 1))=true):St.slotL l=some (twL (l.drop 1),(twL (l.drop 1)).length+2):=by
 unfold St.slotL;simp only[];have e:decide ((twL (l.drop 1)).length+1<l.length)=true:=decide_eq_true h1;unfold twL at e h ⊢;rw[e,h];rfl
theorem name_big{l:List UInt8}(h:24<l.length):St.isNameL l=false:=by
 cases l with
 | nil=>rfl
 | cons c r=>
  rw[St.isNameL];have:¬ r.length<=23:=by simp at h;omega
  rw[decide_eq_false this];rfl
theorem slot_any(s:ByteArray)(w:World)(hs:s.size<=4611686018427387904)(h0:1<=s.size) :
  Calls Tryz.prog 180 #[.string s] w fun e w'=>e=.returned (elV ((St.slotL s.data.toList).map fun x=>(5,x.1,x.2)))/\Und w w':=by
 have hlen:=St.len_list s;go_enter Tryz.func180,Tryz.ntmps180;go_wp2;go_loopw [4] (fun i wr=>SlRel s w i wr) (fun i _=>27-(intOf i).toNat)
 case atStart=>exact⟨1,rfl,by omega,by omega,by simp,rfl⟩
 case round=>
  obtain⟨k,rfl,hk1,hk2,hk3,rfl⟩:=hrel;have HK:=hid hk3;have HL:=hid hlen;clear hk3 hlen
  by_cases hlt:k<s.size
  ·have hcons:=St.drop_at s k hlt
   have z1:(k:Int)<s.size:=by omega
   by_cases h25:k<=25
   ·have z2:(k:Int)<=25:=by omega
    by_cases hc:s[k].toNat=125
    ·have z3:((s[k].toNat:Int)==125)=true:=by simp;omega
     have htw:twL (s.data.toList.drop k)=[]:=by rw[hcons];unfold twL;rw[List.takeWhile_cons_of_neg (by simp[hc])]
     have hn:(twL (s.data.toList.drop 1)).length=k-1:=by rw[HK.out,htw];simp
     obtain⟨x,hX⟩:∃ x,s.extract 1 k=x:=⟨_,rfl⟩
     have hxl:x.data.toList=twL (s.data.toList.drop 1):=by
      have h1:twL (s.data.toList.drop 1)=(s.data.toList.drop 1).take (twL (s.data.toList.drop 1)).length:=List.prefix_iff_eq_take.1 (List.takeWhile_prefix _);rw[h1,hn,<- hX,Lib.extract_data]
     have hxs:x.size<=s.size:=by rw[<- hX];simp;omega
     have hnm:=fun W=>risname_any x W (by omega)
     have y1:(1:Int)<=(k:Int):=by omega
     have y2:(k:Int)<=s.size:=by omega
     rw[hxl] at hnm;cases hb:St.isNameL (twL (s.data.toList.drop 1))
     ·have hR:=hid (slot_none2 hb)
      rw[hb] at hnm;have HNM:=hid hnm;clear hb hnm hxl hn htw hcons;go_wp2_with (go_at_call 177;refine(HNM.out _).mono ?_;rintro e w' ⟨rfl,rfl⟩);refine bodyPost_ret (v:=elV none) (by simp[results,Tryz.results180,go_sem,elV]) rfl ⟨?_,(by apply_rules[uUe,uUa,uUb,uUc,uUd])⟩;rw[hR.out];try rfl
     ·have hR:=hid (slot_some (by rw[hn,HL.out];omega) hb)
      rw[hb] at hnm;have HNM:=hid hnm;have hxe:x=⟨(twL (s.data.toList.drop 1)).toArray⟩:=by rw[<- hxl];try (cases x;simp)
      have HN:=hid hn;have HXE:=hid hxe;clear hb hnm hxl hn htw hcons hxe;go_wp2_with (go_at_call 177;refine(HNM.out _).mono ?_;rintro e w' ⟨rfl,rfl⟩);refine bodyPost_ret (v:=.tuple #[.agg #[.int .i64 5,.string x,.int .i64 0],.int .i64 ((k:Int)+1)]) (by simp[results,Tryz.results180,go_sem]) rfl ⟨?_,(by apply_rules[uUe,uUa,uUb,uUc,uUd])⟩;rw[hR.out,HXE.out];have e:((k-1+2:Nat):Int)=(k:Int)+1:=by omega
      show _=Ending.returned (.tuple #[itv 5 (twL (s.data.toList.drop 1)),.int .i64 (((twL (s.data.toList.drop 1)).length+2:Nat):Int)])
      rw[HN.out,e];rfl
    ·have z3:((s[k].toNat:Int)==125)=false:=by simp;omega
     have htw:(twL (s.data.toList.drop k)).length=1+(twL (s.data.toList.drop (k+1))).length:=by
      rw[hcons];unfold twL;rw[List.takeWhile_cons_of_pos (by simpa using hc)];simp;omega
     have HTW:=hid htw;clear htw hcons;go_wp2;exact⟨⟨k+1,congrArg (Value.int .i64) (by omega),by omega,by omega,by rw[HK.out,HTW.out];omega,rfl⟩,by simp[intOf];omega⟩
   ·have z2:¬ (k:Int)<=25:=by omega
    have hR:=hid (slot_none2 (name_big (l:=twL (s.data.toList.drop 1)) (by rw[HK.out];omega)));clear hcons;go_wp2;refine bodyPost_ret (v:=elV none) (by simp[results,Tryz.results180,go_sem,elV]) rfl ⟨?_,(by apply_rules[uUe,uUa,uUb,uUc,uUd])⟩;rw[hR.out];try rfl
  ·have z1:¬ (k:Int)<s.size:=by omega
   have hR:=hid (slot_none1 (l:=s.data.toList) (by rw[HK.out,HL.out];omega));go_wp2;refine bodyPost_ret (v:=elV none) (by simp[results,Tryz.results180,go_sem,elV]) rfl ⟨?_,(by apply_rules[uUe,uUa,uUb,uUc,uUd])⟩;rw[hR.out];try rfl
theorem text_at(c:UInt8)(m:Int)(hm:m=(c.toNat:Int))(w:World):Calls Tryz.prog 179 #[.int .u8 m] w fun e w'=>e=.returned (.agg #[.int .i64 1,.string ⟨#[c]⟩,.int .i64 0])/\Und w w':=by
 subst hm;exact text_any c w
theorem rsheet_any(s:ByteArray)(w:World)(hs:s.size<=4611686018427387904)(h0:1<=s.size) :
  Calls Tryz.prog 146 #[.string s] w fun e w'=>e=.returned (elV (St.sheetL s.data.toList))/\Und w w':=by
 have hcr:s.data.toList=s[0] :: s.data.toList.drop 1:=St.list_zero s (by omega);have hp1:=fun W=>begins_any s ⟨#[34,34]⟩ W (by omega) (by show 2<=_;omega)
 have hp2:=fun W=>begins_any s ⟨#[123,123]⟩ W (by omega) (by show 2<=_;omega)
 have e1:preB ⟨#[34,34]⟩ s=([34,34]:List UInt8).isPrefixOf (s[0] :: s.data.toList.drop 1):=by unfold preB;rw[<- hcr]
 have e2:preB ⟨#[123,123]⟩ s=([123,123]:List UInt8).isPrefixOf (s[0] :: s.data.toList.drop 1):=by unfold preB;rw[<- hcr]
 have z0:0<s.size:=by omega
 by_cases c34:s[0].toNat=34
 ·have hsl:=St.sheet_34 (r:=s.data.toList.drop 1) c34
  rw[<- e1,<- hcr] at hsl;have htx:=hid (fun W=>text_at s[0] 34 (by omega) W);cases hq1:preB ⟨#[34,34]⟩ s
  ·rw[hq1] at hsl hp1
   have HSL:=hid hsl;have HP1:=hid hp1;clear hsl hp1 hp2 e1 e2 hq1 hcr;go_enter Tryz.func146,Tryz.ntmps146;go_wp2_with (go_at_call 135;refine(HP1.out _).mono ?_;rintro e w' ⟨rfl,rfl⟩);refine bodyPost_ret (v:=elV none) (by simp[results,Tryz.results146,go_sem,elV]) rfl ⟨?_,(by apply_rules[uUe,uUa,uUb,uUc,uUd])⟩;rw[HSL.out];try rfl
  ·rw[hq1] at hsl hp1
   have HSL:=hid hsl;have HP1:=hid hp1;clear hsl hp1 hp2 e1 e2 hq1 hcr;go_enter Tryz.func146,Tryz.ntmps146;go_wp2_with (first|(go_at_call 135;refine(HP1.out _).mono ?_;rintro e w' ⟨rfl,rfl⟩)|(go_at_call 179;refine(htx.out _).mono ?_;rintro e w' ⟨rfl,X,rfl⟩));refine bodyPost_ret (v:=elV (some (1,[s[0]],2))) (by simp[results,Tryz.results146,go_sem,elV,itv]) rfl ⟨?_,(by apply_rules[uUe,uUa,uUb,uUc,uUd])⟩;rw[HSL.out];try rfl
 ·by_cases c123:s[0].toNat=123
  ·have hsl:=St.sheet_123 (r:=s.data.toList.drop 1) c123
   rw[<- e2,<- hcr] at hsl;have htx:=hid (fun W=>text_at s[0] 123 (by omega) W);cases hq2:preB ⟨#[123,123]⟩ s
   ·rw[hq2] at hsl hp2
    simp only[Bool.false_eq_true,if_false] at hsl;have HSL:=hid hsl;have HP2:=hid hp2;have hslot:=fun W=>slot_any s W hs h0
    obtain⟨k,x,m,hv⟩:=elV_form ((St.slotL s.data.toList).map fun x=>((5:Int),x.1,x.2));have HV:=hid hv;rw[hv] at hslot;have HS:=hid hslot;clear hsl hp1 hp2 e1 e2 hq2 hcr hslot hv;go_enter Tryz.func146,Tryz.ntmps146;go_wp2_with (first|(go_at_call 135;refine(HP2.out _).mono ?_;rintro e w' ⟨rfl,rfl⟩)|(go_at_call 180;refine(HS.out _).mono ?_;rintro e w' ⟨rfl,X,rfl⟩));refine bodyPost_ret (v:=.tuple #[.agg #[.int .i64 k,.string x,.int .i64 0],.int .i64 m]) (by simp[results,Tryz.results146,go_sem]) rfl ⟨?_,(by apply_rules[uUe,uUa,uUb,uUc,uUd])⟩;rw[HSL.out,HV.out]
   ·rw[hq2] at hsl hp2
    have HSL:=hid hsl;have HP2:=hid hp2;clear hsl hp1 hp2 e1 e2 hq2 hcr;go_enter Tryz.func146,Tryz.ntmps146;go_wp2_with (first|(go_at_call 135;refine(HP2.out _).mono ?_;rintro e w' ⟨rfl,rfl⟩)|(go_at_call 179;refine(htx.out _).mono ?_;rintro e w' ⟨rfl,X,rfl⟩));refine bodyPost_ret (v:=elV (some (1,[s[0]],2))) (by simp[results,Tryz.results146,go_sem,elV,itv]) rfl ⟨?_,(by apply_rules[uUe,uUa,uUb,uUc,uUd])⟩;rw[HSL.out];try rfl
  ·have hsl:=St.sheet_else (r:=s.data.toList.drop 1) c34 c123
   rw[<- hcr] at hsl;have htx:=hid (fun W=>text_at s[0] (s[0].toNat:Int) rfl W);have d34:((s[0].toNat:Int)==34)=false:=by simp;omega
   have d123:((s[0].toNat:Int)==123)=false:=by simp;omega
   have HSL:=hid hsl;clear hsl hp1 hp2 e1 e2 hcr c34 c123;go_enter Tryz.func146,Tryz.ntmps146;go_wp2_with (go_at_call 179;refine(htx.out _).mono ?_;rintro e w' ⟨rfl,X,rfl⟩);refine bodyPost_ret (v:=elV (some (1,[s[0]],1))) (by simp[results,Tryz.results146,go_sem,elV,itv]) rfl ⟨?_,(by apply_rules[uUe,uUa,uUb,uUc,uUd])⟩;rw[HSL.out];try rfl
end
section
def ElOk(E:List UInt8->St.El):Prop:=∀ l k t n,E l=some (k,t,n)->(k=0∨k=1∨k=5)/\1<=n/\n<=l.length/\t.length<=n
def ElAt(fmt:Int)(E:List UInt8->St.El):Prop:=
 ∀ (s:ByteArray) (w:World),s.size<=4611686018427387904->1<=s.size->Calls Tryz.prog 104 #[.int .i64 fmt,.string s] w fun e w'=>e=.returned (elV (E s.data.toList))/\Und w w'
def RDecEnd(R:List St.It × List Nat × Nat × Int)(w:World)(e:Ending)(w':World):Prop:=
 ∃ v1 v2,e=.returned (.tuple #[v1,v2,.int .i64 (R.2.2.1:Int),.int .i64 R.2.2.2])/\w'.ownsRow w.heap.size 36 3 v1 R.1.length (cellsIt R.1)/\w'.ownsRow w.heap.size 3 1 v2 R.2.1.length (cellsN R.2.1)/\Und w w'
def DcRel(w:World)(E:List UInt8->St.El)(raw:ByteArray)(s8 s9 s10 s11 s12 s13:Value)(wr:World):Prop:=
 ∃ (a d:Nat) (f:List St.It) (cuts:List Nat) (fuel:Nat),s9=.slice none 0 0/\s11=.int .i64 a/\s12=.int .i64 d/\s13=.int .i64 0/\a<=raw.size/\raw.size-a<=fuel /\
  wr.ownsRow w.heap.size 36 3 s8 f.length (cellsIt f)/\wr.ownsRow w.heap.size 3 1 s10 cuts.length (cellsN cuts)/\St.Nm f/\tot f<=a/\f.length<=512/\cuts.length<=1024 /\
  St.dec E raw.size raw.data.toList 0 0 [] []=St.dec E fuel (raw.data.toList.drop a) a d f cuts/\Und w wr
theorem drop_ne{raw:ByteArray}{a:Nat}(h:a<raw.size):raw.data.toList.drop a ≠ []:=by
 intro e;have:=congrArg List.length e
 simp at this;omega
theorem rdecode_any(fmt:Int)(E:List UInt8->St.El)(hE:ElAt fmt E)(hok:ElOk E)(raw:ByteArray)(w:World)(hr:raw.size<=4611686018427387904) :
  Calls Tryz.prog 63 #[.int .i64 fmt,.string raw] w (RDecEnd (St.dec E raw.size raw.data.toList 0 0 [] []) w):=by
 obtain⟨i0,hi,hz0,hz1,hz2⟩:=info_parts info_int;go_enter Tryz.func63,Tryz.ntmps63;go_wp2;go_loopw [8,9,10,11,12,13] (fun s8 s9 s10 s11 s12 s13 wr=>DcRel w E raw s8 s9 s10 s11 s12 s13 wr) (fun _ _ _ s11 _ _ _=>raw.size+1-(intOf s11).toNat)
 case atStart=>exact⟨0,0,[],[],raw.size,rfl,rfl,rfl,rfl,by omega,by omega,World.ownsRow_nil _ _ _ _,World.ownsRow_nil _ _ _ _,St.nm_nil,by simp[tot],by simp,by simp,by simp,Und.refl _⟩
 case round=>
  obtain⟨a,d,f,cuts,fuel,rfl,rfl,rfl,rfl,ha,hfu,hO8,hO10,hN,ht,h1,h2,hD,hu⟩:=hrel;have HD:=hid hD;have HU:=hid hu;have HO8:=hid hO8;have HO10:=hid hO10;have hsz:=hu.size;have HN:=hid hN;clear hN
  by_cases hlt:a<raw.size
  ·have h0:=drop_ne hlt
   obtain⟨fuel,rfl⟩:∃ m,fuel=m+1:=⟨fuel-1,by omega⟩;obtain⟨x,hx⟩:∃ x,raw.extract a raw.size=x:=⟨_,rfl⟩;have hxl:x.data.toList=raw.data.toList.drop a:=by rw[<- hx,Lib.extract_data,List.take_of_length_le (by simp)]
   have hxs:x.size=raw.size-a:=by rw[<- hx];simp
   have hel:=fun W=>hE x W (by omega) (by omega)
   rw[hxl] at hel;have HEL:=hid hel;have y1:(a:Int)<=(raw.size:Int):=by omega
   have y2:(a:Int)<(raw.size:Int):=by omega
   clear hel hD hu hE;cases hs:E (raw.data.toList.drop a) with
   | none=>
    have hd2:=hid (HD.out.trans (St.dec_none fuel a d _ cuts h0 hs));have HEL2:Hid (∀ W,Calls Tryz.prog 104 #[.int .i64 fmt,.string x] W fun e w'=>e=.returned (.tuple #[.agg #[.int .i64 0,.string ⟨#[]⟩,.int .i64 0],.int .i64 0])/\Und W w'):=hid (by have:=HEL.out;rw[hs] at this;exact this);clear hs h0 HD HEL hxl hO8 hO10;go_wp2_with (go_at_call 104;refine(HEL2.out _).mono ?_;rintro e w2 ⟨rfl,hu2⟩);have hu3:=HU.out.trans hu2;refine bodyPost_ret (v:=.tuple #[.slice none 0 0,.slice none 0 0,.int .i64 a,.int .i64 2]) (by simp[results,Tryz.results63,go_sem]) rfl ?_;unfold RDecEnd;rw[hd2.out];exact⟨_,_,rfl,World.ownsRow_nil _ _ _ _,World.ownsRow_nil _ _ _ _,(by apply_rules[uUe,uUa,uUb,uUc,uUd])⟩
   | some q=>
    obtain⟨k,t,n⟩:=q;obtain⟨hk,hn1,hn2,htn⟩:=hok _ _ _ _ hs;have hn3:a+n<=raw.size:=by simp at hn2;omega
    have d0:((n:Int)==0)=false:=by simp;omega
    have hdl:(raw.data.toList.drop a).drop n=raw.data.toList.drop (a+n):=by rw[List.drop_drop]
    have HEL2:Hid (∀ W,Calls Tryz.prog 104 #[.int .i64 fmt,.string x] W fun e w'=>e=.returned (.tuple #[.agg #[.int .i64 k,.string ⟨t.toArray⟩,.int .i64 0],.int .i64 n])/\Und W w'):=hid (by have:=HEL.out;rw[hs] at this;exact this)
    by_cases hk0:k=0
    ·subst hk0
     have hd2:=HD.out.trans (St.dec_skip fuel a d _ cuts h0 hs);rw[hdl] at hd2;have HD2:=hid hd2;clear hs h0 HD HEL hxl hO8 hO10 hd2 hdl hn2;go_wp2_with (go_at_call 104;refine(HEL2.out _).mono ?_;rintro e w2 ⟨rfl,hu2⟩);have hu3:=HU.out.trans hu2;exact⟨⟨a+n,d,f,cuts,fuel,rfl,congrArg (Value.int .i64) (by omega),rfl,rfl,hn3,by omega,own_und ((by apply_rules[uUe,uUa,uUb,uUc,uUd])) HO8.out,own_und ((by apply_rules[uUe,uUa,uUb,uUc,uUd])) HO10.out,HN.out,by omega,h1,h2,HD2.out,(by apply_rules[uUe,uUa,uUb,uUc,uUd])⟩,by simp[intOf];omega⟩
    ·have hk':k=1∨k=5:=by omega
     have hnl:St.normL (f++[(k,t,0)])=St.addI f (k,t,0):=by rw[St.normL_snoc,HN.out]
     have htx:tot (f++[(k,t,0)])<=a+n:=by rw[tot_snoc];simp only;omega
     have hta:=tot_add f (k,t,0);have hla:=(St.addI_len f (k,t,0)).1;have hng:St.Nm (St.addI f (k,t,0)):=St.nm_add HN.out _;obtain⟨A8,c8,rfl,_,_,hA8⟩:=own_slice' hO8;obtain⟨A10,c10,rfl,_,_,hA10⟩:=own_slice' hO10
     have hcat:∀ (W:World) (b:Nat),ItemsAt W A8 f->ItemsAt W (some ⟨b,0,none⟩) [(k,t,0)]->Calls Tryz.prog 44 #[.slice A8 f.length c8,.slice (some ⟨b,0,none⟩) 1 1] W fun e w'=>∃ v,e=.returned v/\w'.ownsRow W.heap.size 36 3 v (St.addI f (k,t,0)).length (cellsIt (St.addI f (k,t,0)))/\Und W w':=by
      intro W b h h';have:=concat_any A8 f.length c8 f (some ⟨b,0,none⟩) 1 1 [(k,t,0)] W rfl rfl (fun e=>by have:=hA8 e;omega) (fun e=>by cases e) h h' (by omega) (by omega)
      rw[hnl] at this;exact this
     have HCAT:=hid hcat;have hstep:=St.dec_step fuel a d f cuts h0 hs hk0;have hfull:=St.dec_full fuel a d f cuts h0 hs hk0;rw[hdl] at hstep;have hIt:=hid (items_own hO8 rfl);generalize hg:St.addI f (k,t,0)=g at hcat hstep hfull hta hla hng HCAT;have HST:=hid hstep;have HFU:=hid hfull;have HNG:=hid hng;have HLA:=hid hla;clear hcat hstep hfull hs h0 hdl HEL hxl hO8 hO10 hng hnl hn2 hg hla;have q0:(k==0)=false:=by rcases hk' with rfl|rfl <;> rfl
     have q2:(k==2)=false:=by rcases hk' with rfl|rfl <;> rfl
     have q3:(k==3)=false:=by rcases hk' with rfl|rfl <;> rfl
     have q4:(k==4)=false:=by rcases hk' with rfl|rfl <;> rfl
     clear hk hk' hk0
     by_cases hb5:512<g.length
     ·have hd2:=HD.out.trans (HFU.out (.inl hb5))
      have HD2:=hid hd2;have z5:((512:Int)<(g.length:Int)):=by omega
      clear hd2 HD;go_wp2_with (first|(go_at_call 104;refine(HEL2.out _).mono ?_;rintro e w2 ⟨rfl,hu2⟩)|(go_at_call 44;refine(HCAT.out _ _ ?_ ?_).mono ?_))
      ·exact hIt.out.und ((by apply_rules[uUe,uUa,uUb,uUc,uUd]))
      ·exact items_box2 _ _ _ _ _
      rintro e w3 ⟨v3,rfl,ho3,hu3⟩;obtain⟨A3,c3,rfl,_,_,_⟩:=own_slice' ho3;have hu4:Und wr w3:=Und.trans ((by apply_rules[uUe,uUa,uUb,uUc,uUd])) hu3;have hu5:=HU.out.trans hu4;clear ho3 hu3 hu2 hu4;go_wp2;refine bodyPost_ret (v:=.tuple #[.slice none 0 0,.slice none 0 0,.int .i64 a,.int .i64 3]) (by simp[results,Tryz.results63,go_sem]) rfl ?_;unfold RDecEnd;rw[HD2.out];exact⟨_,_,rfl,World.ownsRow_nil _ _ _ _,World.ownsRow_nil _ _ _ _,(by apply_rules[uUe,uUa,uUb,uUc,uUd])⟩
     ·have z5:¬ ((512:Int)<(g.length:Int)):=by omega
      by_cases hb6:1024<=cuts.length
      ·have hd2:=HD.out.trans (HFU.out (.inr hb6))
       have HD2:=hid hd2;have z6:((1024:Int)<=(cuts.length:Int)):=by omega
       clear hd2 HD;go_wp2_with (first|(go_at_call 104;refine(HEL2.out _).mono ?_;rintro e w2 ⟨rfl,hu2⟩)|(go_at_call 44;refine(HCAT.out _ _ ?_ ?_).mono ?_))
       ·exact hIt.out.und ((by apply_rules[uUe,uUa,uUb,uUc,uUd]))
       ·exact items_box2 _ _ _ _ _
       rintro e w3 ⟨v3,rfl,ho3,hu3⟩;obtain⟨A3,c3,rfl,_,_,_⟩:=own_slice' ho3;have hu4:Und wr w3:=Und.trans ((by apply_rules[uUe,uUa,uUb,uUc,uUd])) hu3;have hu5:=HU.out.trans hu4;clear ho3 hu3 hu2 hu4;go_wp2;refine bodyPost_ret (v:=.tuple #[.slice none 0 0,.slice none 0 0,.int .i64 a,.int .i64 3]) (by simp[results,Tryz.results63,go_sem]) rfl ?_;unfold RDecEnd;rw[HD2.out];exact⟨_,_,rfl,World.ownsRow_nil _ _ _ _,World.ownsRow_nil _ _ _ _,(by apply_rules[uUe,uUa,uUb,uUc,uUd])⟩
      ·have hd2:=HD.out.trans (HST.out (by omega))
       have HD2:=hid hd2;have z6:¬ ((1024:Int)<=(cuts.length:Int)):=by omega
       clear hd2 HD;go_wp2_with (first|(go_at_call 104;refine(HEL2.out _).mono ?_;rintro e w2 ⟨rfl,hu2⟩)|(go_at_call 44;refine(HCAT.out _ _ ?_ ?_).mono ?_))
       ·exact hIt.out.und ((by apply_rules[uUe,uUa,uUb,uUc,uUd]))
       ·exact items_box2 _ _ _ _ _
       rintro e w3 ⟨v3,rfl,ho3,hu3⟩;obtain⟨A3,c3,rfl,_,_,_⟩:=own_slice' ho3;have hu4:Und wr w3:=Und.trans ((by apply_rules[uUe,uUa,uUb,uUc,uUd])) hu3;have hs4:=hu4.size;have HU5:=hid (HU.out.trans hu4);have HO10':=hid (own_und hu4 HO10.out);have HO3:=hid (own_low (base':=w.heap.size) ho3 (by have:=hu2.size;simp;omega));have hc:w3.cell? ⟨w2.heap.size,0,none⟩=some (.int .i64 k):=(hu3.cell (show w2.heap.size<_ by simp;omega)).trans (by simp);haveI:LtW w2.heap.size w3:=LtW.of (by have:=hu3.size;simp at this;omega);clear ho3 hu3 hu2;go_wp2_with (at_builtin;refine wpList_append_own _ rfl _ _ 42 rfl w.heap.size 3 i0 (.int .i64 0) 1 8 Tryz.underlying42 hi hz0 hz1 hz2 rfl (by decide) (.slice A10 cuts.length c10) cuts.length (cellsN cuts) rfl ?_ _ 1 1 [.int .i64 d] rfl rfl ?_ ?_ (by unfold maxLen;omega) (by omega) ?_ ?_)
       ·exact own_und ((by apply_rules[uUe,uUa,uUb,uUc,uUd])) HO10'.out
       ·exact side1b _ _ _
       ·intro u hu';simp at hu';subst hu';rfl
       ·have:=HU5.out.size;simp;omega
       ·intro v' w5 ho5 hg5 _
        rw[<- cellsN_snoc] at ho5;have HU6:=hid ((HU5.out.alloc _).grown hg5 (fun g hg=>owns_block HO10'.out g hg));have hA:∀ {W:World},Und w3 W->W.grownBy w5 (Value.slice A10 cuts.length c10).ownBlock->w5.ownsRow w.heap.size 36 3 (.slice A3 g.length c3) g.length (cellsIt g):=fun hW h5=>(own_und hW HO3.out).kept h5 (rows_ne (own_und hW HO3.out) (own_und hW HO10'.out) (by decide))
        have HO3':=hid (hA ((by apply_rules[uUe,uUa,uUb,uUc,uUd])) hg5);have HO5:=hid ho5;clear hg5 ho5 hA hc;go_wp2;exact⟨⟨a+n,a+n,g,cuts++[d],fuel,rfl,congrArg (Value.int .i64) (by omega),congrArg (Value.int .i64) (by omega),rfl,hn3,by omega,HO3'.out,by simpa using HO5.out,HNG.out,by omega,by omega,by simp;omega,HD2.out,HU6.out⟩,by simp[intOf];omega⟩
  ·have haz:a=raw.size:=by omega
   subst haz;have hnil:raw.data.toList.drop raw.size=[]:=List.drop_of_length_le (by simp);have hd2:=HD.out;rw[hnil,St.dec_nil] at hd2;have HD2:=hid hd2;obtain⟨A10,c10,rfl,_,_,hA10⟩:=own_slice' hO10;have hsz2:=HU.out.size;clear hlt hD HD hu hnil hd2 hO8 hO10;go_wp2_with (at_builtin;refine wpList_append_own _ rfl _ _ 42 rfl w.heap.size 3 i0 (.int .i64 0) 1 8 Tryz.underlying42 hi hz0 hz1 hz2 rfl (by decide) (.slice A10 cuts.length c10) cuts.length (cellsN cuts) rfl ?_ _ 1 1 [.int .i64 d] rfl rfl ?_ ?_ (by unfold maxLen;omega) (by omega) ?_ ?_)
   ·exact own_und ((by apply_rules[uUe,uUa,uUb,uUc,uUd])) HO10.out
   ·exact side1b _ _ _
   ·intro u hu';simp at hu';subst hu';rfl
   ·simp;omega
   ·intro v' w5 ho5 hg5 _
    rw[<- cellsN_snoc] at ho5;have HU6:=hid ((HU.out.alloc _).grown hg5 (fun g hg=>owns_block HO10.out g hg));have hA:∀ {W:World} {v:Value},Und wr W->W.grownBy w5 (Value.slice A10 cuts.length c10).ownBlock->wr.ownsRow w.heap.size 36 3 v f.length (cellsIt f)->w5.ownsRow w.heap.size 36 3 v f.length (cellsIt f):=fun hW h5 hv=>(own_und hW hv).kept h5 (rows_ne (own_und hW hv) (own_und hW HO10.out) (by decide))
    have HO3':=hid (hA ((by apply_rules[uUe,uUa,uUb,uUc,uUd])) hg5 HO8.out);have HO5:=hid ho5;clear hg5 ho5 hA;go_wp2;refine bodyPost_ret (v:=.tuple #[_,v',.int .i64 0,.int .i64 0]) (by simp[results,Tryz.results63,go_sem];rfl) rfl ?_;unfold RDecEnd;rw[HD2.out];exact⟨_,_,rfl,HO3'.out,by simpa using HO5.out,HU6.out⟩
end
section
theorem items_boxi(W:World)(b:Nat)(k:Int)(t:List UInt8)(i:Int)(hb:b<W.heap.size)(h0:W.cell? ⟨b,0,none⟩=some (.int .i64 k))(h1:W.cell? ⟨b,1,none⟩=some (.string ⟨t.toArray⟩))(h2:W.cell? ⟨b,2,none⟩=some (.int .i64 i)):ItemsAt W (some ⟨b,0,none⟩) [(k,t,i)]:=by
 intro _;refine⟨b,0,rfl,hb,fun j hj=>?_⟩;obtain rfl:j=0:=by simpa using hj
 exact⟨h0,h1,h2⟩
end
section
@[go_sem] theorem conv_one (W:World) (c:Int):(convert 22 9 (.slice (some ⟨W.heap.size,0,none⟩) 1 1)).run Tryz.prog (W.alloc (.cells #[.int .u8 c] 5))=.ok (.string ⟨#[UInt8.ofNat c.toNat]⟩) (W.alloc (.cells #[.int .u8 c] 5)):=by
 rw[run_convert_bytes_arg _ 22 5 Tryz.underlying22 Tryz.underlying5 W.heap.size 0 1 1 [c] rfl (fun i hi=>by
  obtain rfl:i=0:=by omega
  rw[World.cell?_alloc_at _ _ _ _ rfl];simp) _ Tryz.underlying9]
 rfl
def DecRel(n:Nat)(w:World)(a s:Value)(wr:World):Prop:=
 ∃ (m:Nat) (l:List UInt8),m<=n/\l.length<=n-m/\a=.int .i64 m/\s=.string ⟨l.toArray⟩/\Hid (Lib.decDigits n=Lib.decDigits m++l)/\Und w wr
theorem dec_byte(k:Nat):UInt8.ofNat (48+k)=48+UInt8.ofNat k:=by
 apply UInt8.toNat.inj;simp[UInt8.toNat_add]
theorem dec_lt{m:Nat}(h:m<10):Lib.decDigits m=[48+UInt8.ofNat (m % 10)]:=by
 rw[Lib.decDigits_one h,dec_byte,Nat.mod_eq_of_lt h]
theorem dec_ge{m:Nat}(h:¬ m<10):Lib.decDigits m=Lib.decDigits (m / 10)++[48+UInt8.ofNat (m % 10)]:=by
 rw[Lib.decDigits,dif_neg h,dec_byte]
theorem ba_append(a b:Array UInt8):(⟨a⟩:ByteArray)++(⟨b⟩:ByteArray)=⟨a++b⟩:=by
 apply ByteArray.ext;simp[ByteArray.data_append]
theorem ret_str{a b:ByteArray}(h:a=b):Ending.returned (.string a)=.returned (.string b):=by rw[h]
theorem decimal_any(n:Nat)(w:World)(hn:n<=4611686018427387904) :
  Calls Tryz.prog 176 #[.int .i64 n] w fun e w'=>e=.returned (.string ⟨(Lib.decDigits n).toArray⟩)/\Und w w':=by
 go_enter Tryz.func176,Tryz.ntmps176;go_wp2;go_loopw [0,3] (fun a s wr=>DecRel n w a s wr) (fun a _ _=>(intOf a).toNat)
 case atStart=>exact⟨n,[],by omega,by simp,rfl,rfl,hid (by simp),Und.refl _⟩
 case round=>
  obtain⟨m,l,hm,hl,rfl,rfl,H,X,rfl⟩:=hrel
  by_cases h10:m<10
  ·have e1:((m:Int) / 10==0)=true:=by simp;omega
   go_wp2;go_ret;refine⟨ret_str ?_,(by apply_rules[uUe,uUa,uUb,uUc,uUd])⟩;rw[H.out,dec_lt h10,ba_append];simp
  ·have e1:((m:Int) / 10==0)=false:=by simp;omega
   go_wp2;rw[ba_append];refine⟨⟨m / 10,(48+UInt8.ofNat (m % 10)) :: l,by omega,by simp;omega,by simp,by simp,hid ?_,(by apply_rules[uUe,uUa,uUb,uUc,uUd])⟩,?_⟩
   ·rw[H.out,dec_ge h10];simp
   ·simp[intOf];omega
end
section
theorem slot_text{l:List UInt8}{t:List UInt8}{n:Nat}(h:St.slotL l=some (t,n)):t.length<=n:=by
 unfold St.slotL at h;simp only[] at h
 split at h
 ·simp only[Option.some.injEq,Prod.mk.injEq] at h
  obtain⟨rfl,rfl⟩:=h;omega
 ·cases h
theorem sheet_ok:ElOk St.sheetL:=by
 intro l k t n h;obtain⟨hk,h1,h2⟩:=St.sheet_len h;refine⟨by omega,h1,h2,?_⟩
 match l,h with
 | c :: r,h=>
  by_cases c34:c.toNat=34
  ·rw[St.sheet_34 c34] at h
   split at h
   ·simp only[Option.some.injEq,Prod.mk.injEq] at h
    obtain⟨_,rfl,rfl⟩:=h;simp
   ·cases h
  ·by_cases c123:c.toNat=123
   ·rw[St.sheet_123 c123] at h
    split at h
    ·simp only[Option.some.injEq,Prod.mk.injEq] at h
     obtain⟨_,rfl,rfl⟩:=h;simp
    ·cases hs:St.slotL (c :: r) with
     | none=>rw[hs] at h;cases h
     | some x=>
      rw[hs] at h;obtain⟨x1,x2⟩:=x;simp only[Option.map_some,Option.some.injEq,Prod.mk.injEq] at h;obtain⟨_,rfl,rfl⟩:=h;exact slot_text hs
   ·rw[St.sheet_else c34 c123] at h
    simp only[Option.some.injEq,Prod.mk.injEq] at h;obtain⟨_,rfl,rfl⟩:=h;simp
theorem sheet_at:ElAt 3 St.sheetL:=by
 intro s w hs h0;obtain⟨k,x,m,hv⟩:=elV_form (St.sheetL s.data.toList);have hsh:=fun W=>rsheet_any s W hs h0
 rw[hv] at hsh;have HS:=hid hsh;have HV:=hid hv;clear hsh hv;go_enter Tryz.func104,Tryz.ntmps104;go_wp2_with (go_at_call 146;refine(HS.out _).mono ?_;rintro e w' ⟨rfl,X,rfl⟩);refine bodyPost_ret (v:=.tuple #[.agg #[.int .i64 k,.string x,.int .i64 0],.int .i64 m]) (by simp[results,Tryz.results104,go_sem]) rfl ⟨?_,(by apply_rules[uUe,uUa,uUb,uUc,uUd])⟩;rw[HV.out]
end
end Go.Proofs.YthoemdibbldndaaGreatDoor
