/- The contracts of item's name and IsContent, and of the library's Cut at a blank. -/
import Derived.Test.YthoemdibbldndaaGreatDoorRefCheck
import Derived.Test.YthoemdibbldndaaGreatDoorShelf
import Derived.Lib.IndexBytes
import Derived.BigQuiet
set_option linter.all false
set_option maxHeartbeats 0
open Go.Value renaming int->Yh,string->Yi,bool->Yk
open Go.Ending renaming returned->Yp
namespace Go.Proofs.YthoemdibbldndaaGreatDoor
open Go.RowKit
section
namespace St
theorem C6:∀l:List UInt8,Lib.indexByte l 32=if(nameOf l).length<l.length then((nameOf l).length:Int)else -1
 | []=>rfl
 | c :: l=>by
  unfold Lib.indexByte
  by_cases h:c.toNat=32
  ·have h2:c=32:=by apply UInt8.toNat_inj.1;simpa using h
   subst h2;simp[nameOf]
  have h2:¬c=32:=λe=>h (by rw[e];rfl)
  have h3:(c==32)=false:=by simpa using h2
  have e:(nameOf (c :: l)).length=(nameOf l).length+1:=by unfold nameOf;rw[List.takeWhile_cons_of_pos (by simpa using h),List.length_cons]
  rw[h3,C6 l,e];simp only[List.length_cons,Bool.false_eq_true,if_false]
  by_cases h4:(nameOf l).length<l.length
  ·rw[if_pos h4,if_neg (by simp<;>omega),if_pos (by omega)];try simp
  rw[if_neg h4,if_pos (by simp),if_neg (by omega)]
theorem Dr(l:List UInt8):nameOf l=l.take (nameOf l).length:=List.prefix_iff_eq_take.1 (List.takeWhile_prefix _)
theorem FK(l:List UInt8):(nameOf l).length<=l.length:=(List.takeWhile_prefix _).length_le
theorem Lo(c:UInt8):Lib.indexByte [60,62,123,125] c<0 ↔ (c.toNat≠60/\c.toNat≠62/\c.toNat≠123/\c.toNat≠125):=by
 by_cases h1:c=60
 ·subst h1;decide
 by_cases h2:c=62
 ·subst h2;decide
 by_cases h3:c=123
 ·subst h3;decide
 by_cases h4:c=125
 ·subst h4;decide
 have b1:((60:UInt8)==c)=false:=by simpa using λe=>h1 e.symm
 have b2:((62:UInt8)==c)=false:=by simpa using λe=>h2 e.symm
 have b3:((123:UInt8)==c)=false:=by simpa using λe=>h3 e.symm
 have b4:((125:UInt8)==c)=false:=by simpa using λe=>h4 e.symm
 have hi:Lib.indexByte [60,62,123,125] c=-1:=by simp[Lib.indexByte,b1,b2,b3,b4]
 rw[hi];exact⟨λ_=>⟨λe=>h1 (UInt8.toNat_inj.1 e),λe=>h2 (UInt8.toNat_inj.1 e),λe=>h3 (UInt8.toNat_inj.1 e),λe=>h4 (UInt8.toNat_inj.1 e)⟩,λ_=>by decide⟩
end St
def Bx(s x y:ByteArray)(f:Bool):Prop:=x.1.1=St.nameOf s.1.1/\f=decide (x.size<s.size)/\y.size=s.size-x.size-1
theorem GD(s:ByteArray)(w:World)(hs:s.size<=4611686018427387904):Calls Tryz.prog 155 #[Yi s,Yi ⟨#[32]⟩] w λe w'=>∃(x y:ByteArray) (f:Bool),e=Yp (.tuple #[Yi x,Yi y,Yk f])/\Bx s x y f/\ac w w':=by
 have bP:∀W,Calls Tryz.prog 167 #[Yi s,Yi ⟨#[32]⟩] W λe w'=>e=Yp (Yh .i64 (Lib.indexByte s.1.1 32))/\w'=W:=λW=>Tryz.stringslite_Index_one s 32 W
 rw[St.C6]at bP;have hle:=St.FK s.1.1;rw[St.aC]at hle
 by_cases h:(St.nameOf s.1.1).length<s.1.1.length
 ·rw[if_pos h]at bP;have h2:(St.nameOf s.1.1).length<s.size:=by rw[St.aC]at h;exact h
  have hx:Bx s (s.extract 0 (St.nameOf s.1.1).length) (s.extract ((St.nameOf s.1.1).length+1) s.size) true:=by
   refine⟨?_,?_,?_⟩
   ·rw[Lib.extract_data]
    conv=>rhs;rw[St.Dr]
    simp
   ·rw[ByteArray.size_extract];simp;omega
   rw[ByteArray.size_extract,ByteArray.size_extract];omega
  generalize(St.nameOf s.1.1).length=n at *;have HX:=aa hx;have ep:=aa bP;have y1:(n:Int)<=s.size:=by omega
  have y2:(n:Int)+1<=s.size:=by omega
  clear hx bP h hle;go_enter Tryz.func155,Tryz.ntmps155;go_wp2_with (go_at_call 167;refine(ep.out _).mono ?_;rintro e w' ⟨rfl,rfl⟩);go_quiet (fail);go_wp2;go_ret3;exact⟨_,_,_,rfl,HX.out,(ac.refl _).drewN _⟩
 rw[if_neg h]at bP
 have hx:Bx s s ⟨#[]⟩ false:=by
  refine⟨?_,by simp,show 0=_ by omega⟩
  conv=>rhs;rw[St.Dr]
  exact(List.take_of_length_le (by omega)).symm
 generalize(St.nameOf s.1.1).length=n at *;have HX:=aa hx;have ep:=aa bP;clear hx bP h hle;go_enter Tryz.func155,Tryz.ntmps155;go_wp2_with (go_at_call 167;refine(ep.out _).mono ?_;rintro e w' ⟨rfl,rfl⟩);go_ret3;exact⟨_,_,_,rfl,HX.out,ac.refl _⟩
theorem tp(s:ByteArray)(w:World)(hs:s.size<=4611686018427387904):Calls Tryz.prog 118 #[Yi s,Yi ⟨#[32]⟩] w λe w'=>∃(x y:ByteArray) (f:Bool),e=Yp (.tuple #[Yi x,Yi y,Yk f])/\Bx s x y f/\ac w w':=by
 have HC:=aa (GD s w hs);go_enter Tryz.func118,Tryz.ntmps118;go_wp2_with fail;refine HC.out.mono ?_;rintro e w' ⟨x,y,f,rfl,hx,hu⟩;have HX:=aa hx;have HU:=aa hu;clear hu;clear hx;go_wp2
 first|go_ret|go_ret3
 exact⟨x,y,f,rfl,HX.out,HU.out⟩
theorem J7(t:List UInt8)(w:World)(hs:t.length<=4611686018427387904):Calls Tryz.prog 151 #[Yi ⟨t.toArray⟩] w λe w'=>e=Yp (Yi ⟨(St.nameOf t).toArray⟩)/\ac w w':=by
 have HC:=aa (tp ⟨t.toArray⟩ w (by show t.toArray.size<=_;simpa using hs));go_enter Tryz.func151,Tryz.ntmps151;go_wp2_with fail;refine HC.out.mono ?_;rintro e w' ⟨x,y,f,rfl,hx,hu⟩;have HX:=aa (show x=⟨(St.nameOf t).toArray⟩by rw[<-bn x,hx.1]);have HU:=aa hu;clear hu hx;go_wp2;go_ret;exact⟨by rw[HX.out];rfl,HU.out⟩
theorem pn(s:ByteArray)(w:World)(hs:s.size<=4611686018427387904):Calls Tryz.prog 150 #[Yi s] w λe w'=>e=Yp (Yk (St.aN s.1.1))/\ac w w':=by
 have HLEN:=aa (St.aC s)
 by_cases h64:64<s.size
 ·have z:(64:Int)<s.size:=by omega
  have hr:=aa (show St.aN s.1.1=false by unfold St.aN;rw[HLEN.out,decide_eq_false (by omega)];rfl);go_enter Tryz.func150,Tryz.ntmps150;go_wp2;go_ret;exact⟨az hr.out.symm,uZ⟩
 have z:¬(64:Int)<s.size:=by omega
 by_cases h0:s.size=0
 ·have z0:((s.size:Int)==0)=true:=by rw[h0];rfl
  have hr:=aa (show St.aN s.1.1=false by
   have:s.1.1=[]:=List.eq_nil_of_length_eq_zero (by rw[HLEN.out];exact h0)
   rw[this];decide)
  go_enter Tryz.func150,Tryz.ntmps150;go_wp2;go_ret;exact⟨az hr.out.symm,uZ⟩
 have z0:((s.size:Int)==0)=false:=beq_eq_false_iff_ne.2 (by omega);obtain⟨m,hm⟩:∃m,s.size=m+1:=⟨s.size-1,by omega⟩;have fu:m<s.size:=by omega
 have hlast:s.1.1.getLast?=some s[m]:=by
  rw[List.getLast?_eq_getElem?,HLEN.out,show s.size-1=m by omega];exact List.getElem?_eq_getElem (by rw[HLEN.out];exact fu)
 have z3:(s.size:Int)-1=(m:Int):=by omega
 have z4:(m:Int)<s.size:=by omega
 clear hm
 by_cases q3:s[m].toNat=47
 ·have p3:((s[m].toNat:Int)==47)=true:=by simp;omega
  have hr:=aa (show St.aN s.1.1=false by
   have e:s[m]=47:=by apply UInt8.toNat_inj.1;simpa using q3
   unfold St.aN
   rw[hlast,e];simp)
  clear hlast;go_enter Tryz.func150,Tryz.ntmps150;go_wp2;go_ret;exact⟨az hr.out.symm,uZ⟩
 have p3:((s[m].toNat:Int)==47)=false:=by simp;omega
 have Rc:(s.1.1.getLast? != some 47)=true:=by
  rw[hlast];have:s[m]≠47:=λe=>q3 (by rw[e];rfl)
  simpa using this
 have UB:=aa Rc;clear Rc hlast q3;go_enter Tryz.func150,Tryz.ntmps150;go_wp2;go_loopw [3] (λi wr=>M8 s i/\ac w wr) (λi _=>s.size+1-(intOf i).toNat)
 case atStart=>exact⟨⟨0,rfl,by omega,rfl⟩,ac.refl _⟩
 case round=>
  obtain⟨⟨k,rfl,hk,hl⟩,hu⟩:=hrel;have HL:=aa hl;have HU:=aa hu;clear hl hu
  by_cases hlt:k<s.size
  ·have av:=St.drop_at s k hlt;have z1:(k:Int)<s.size:=by omega
   have bP:=λW=>Tryz.strings_IndexByte ⟨#[60,62,123,125]⟩ (s[k].toNat:Int) W
   have hbk:((s[k].toNat:Int).toNat.toUInt8)=s[k]:=by simp
   have tO:=St.Lo s[k];rw[hbk,show(⟨#[60,62,123,125]⟩:ByteArray).1.1=[60,62,123,125]from rfl]at bP;generalize Lib.indexByte [60,62,123,125] s[k]=v at bP tO;have ep:=aa bP;cases hcc:St.fM s[k]
   ·have hr:=aa (wT (s:=s.1.1) (by rw[HL.out,av];simp[hcc]));have qA:=of_decide_eq_false hcc;clear av hcc bP hbk
    by_cases q1:s[k].toNat<32
    ·have p1:(s[k].toNat:Int)<32:=by omega
     go_wp2;go_ret;exact⟨az hr.out.symm,HU.out⟩
    have p1:¬(s[k].toNat:Int)<32:=by omega
    by_cases q2:126<s[k].toNat
    ·have p2:(126:Int)<(s[k].toNat:Int):=by omega
     go_wp2;go_ret;exact⟨az hr.out.symm,HU.out⟩
    have p2:¬(126:Int)<(s[k].toNat:Int):=by omega
    have hv:0<=v:=by
     refine Int.not_lt.1 λh=>?_
     have:=tO.1 h
     omega
    clear tO qA;go_wp2_with fail;refine(ep.out _).mono ?_;rintro e w' ⟨rfl,rfl⟩;go_wp2;go_ret;exact⟨az hr.out.symm,HU.out⟩
   have hl2:=aa (show s.1.1.all St.fM=(s.1.1.drop (k+1)).all St.fM by rw[HL.out,av];simp[hcc]);have qA:=of_decide_eq_true hcc;have p1:¬(s[k].toNat:Int)<32:=by omega
   have p2:¬(126:Int)<(s[k].toNat:Int):=by omega
   have hv:¬0<=v:=by
    have:=tO.2 ⟨qA.2.2.1,qA.2.2.2.1,qA.2.2.2.2.1,qA.2.2.2.2.2⟩
    omega
   clear av hcc qA bP hbk tO;go_wp2_with fail;refine(ep.out _).mono ?_;rintro e w' ⟨rfl,rfl⟩;go_wp2;exact⟨⟨⟨k+1,congrArg (Yh .i64) (by omega),by omega,hl2.out⟩,HU.out⟩,by simp[intOf];omega⟩
  have pW:k=s.size:=by omega
  subst pW;have hall:s.1.1.all St.fM=true:=by rw[HL.out,List.drop_of_length_le (by simp)];rfl
  have hr:St.aN s.1.1=(St.aE (St.nameOf s.1.1)&&(decide ((St.nameOf s.1.1).length=s.size) || decide ((St.nameOf s.1.1).length+1<s.size))):=by
   unfold St.aN;rw[HLEN.out,decide_eq_true (by omega),hall,UB.out];simp
  have HR:=aa hr;have HC:=aa (tp s wr hs);have y0:¬(s.size:Int)<s.size:=by omega
  clear hr hall hlt hk;go_wp2_with fail;refine HC.out.mono ?_;rintro e w' ⟨x,y,f,rfl,⟨hx1,hx2,hx3⟩,hu⟩;have aX:=aa (HU.out.trans hu);have hxl:=St.aC x;rw[hx1]at hxl;have hnl:=St.FK s.1.1;rw[HLEN.out,hxl]at hnl;have hin:=kG x w' (by omega);rw[hx1]at hin;have pH:=aa hin;rw[hxl]at HR;clear hin hx1 hu HC hxl;generalize St.aE (St.nameOf s.1.1)=b1 at pH HR;cases b1
  ·go_wp2_with fail;refine pH.out.mono ?_;rintro e w' ⟨rfl,rfl⟩;go_wp2;go_ret;exact⟨az (by rw[HR.out];rfl),aX.out⟩
  by_cases q1:x.size=s.size
  ·have hf:f=false:=by rw[hx2];exact decide_eq_false (by omega)
   subst hf;rw[decide_eq_true q1]at HR;clear hx2 hx3;go_wp2_with fail;refine pH.out.mono ?_;rintro e w' ⟨rfl,rfl⟩;go_wp2;go_ret;exact⟨az (by rw[HR.out];rfl),aX.out⟩
  have hf:f=true:=by rw[hx2];exact decide_eq_true (by omega)
  subst hf;rw[decide_eq_false q1]at HR
  by_cases q2:x.size+1<s.size
  ·have p2:(0:Int)<y.size:=by omega
   rw[decide_eq_true q2]at HR;clear hx2 hx3;go_wp2_with fail;refine pH.out.mono ?_;rintro e w' ⟨rfl,rfl⟩;go_wp2;go_ret;exact⟨az (by rw[HR.out,decide_eq_true (show 0<y.size by omega)];rfl),aX.out⟩
  have p2:¬(0:Int)<y.size:=by omega
  rw[decide_eq_false q2]at HR;clear hx2 hx3;go_wp2_with fail;refine pH.out.mono ?_;rintro e w' ⟨rfl,rfl⟩;go_wp2;go_ret;exact⟨az (by rw[HR.out,decide_eq_false (show ¬0<y.size by omega)];rfl),aX.out⟩
end
section
theorem rT(k:Int)(t:ByteArray)(i:Int)(w:World):Calls Tryz.prog 114 #[.agg #[Yh .i64 k,Yi t,Yh .i64 i]] w λe w'=>e=Yp (Yk (St.aQ k))/\ac w w':=by
 by_cases h2:k=2
 ·subst h2;go_enter Tryz.func114,Tryz.ntmps114;go_wp2;go_ret;exact⟨rfl,uZ⟩
 have z2:(k==2)=false:=by simpa using h2
 by_cases h3:k=3
 ·subst h3;go_enter Tryz.func114,Tryz.ntmps114;go_wp2;go_ret;exact⟨rfl,uZ⟩
 have z3:(k==3)=false:=by simpa using h3
 by_cases h4:k=4
 ·subst h4;go_enter Tryz.func114,Tryz.ntmps114;go_wp2;go_ret;exact⟨rfl,uZ⟩
 have z4:(k==4)=false:=by simpa using h4
 have hr:=aa (show St.aQ k=false by unfold St.aQ;simp[h2,h3,h4]);clear h2 h3 h4;go_enter Tryz.func114,Tryz.ntmps114;go_wp2;go_ret;exact⟨az hr.out.symm,uZ⟩
theorem xG(k:Int)(t:List UInt8)(i:Int)(w:World):Calls Tryz.prog 86 #[.agg #[Yh .i64 k,Yi ⟨t.toArray⟩,Yh .i64 i]] w λe w'=>e=Yp (Yh .i64 (St.aZ (k,t,i):Nat))/\ac w w':=by
 have xC:(⟨t.toArray⟩:ByteArray).size=t.length:=by show t.toArray.size=_;simp
 by_cases h:k=1
 ·subst h;have hr:=aa (show St.aZ (1,t,i)=t.length by unfold St.aZ;simp);go_enter Tryz.func86,Tryz.ntmps86;go_wp2;go_ret;exact⟨ba (by rw[hr.out,<-xC]),uZ⟩
 have z:(k==1)=false:=by simpa using h
 have hr:=aa (show St.aZ (k,t,i)=1 by unfold St.aZ;simp[h]);clear h;go_enter Tryz.func86,Tryz.ntmps86;go_wp2;go_ret;exact⟨ba (by rw[hr.out];rfl),uZ⟩
def SC(w:World)(f:List St.It)(s3 s8:Value)(wr:World):Prop:=∃k:Nat,k<=f.length/\s8=Yh .i64 k/\s3=Yh .i64 (St.aA (f.take k):Nat)/\ac w wr
theorem FD(f:List St.It)(k:Nat):St.aA (f.take k)<=St.aA f:=by
 have:St.aA f=St.aA (f.take k)+St.aA (f.drop k):=by
  conv=>lhs;rw[<-List.take_append_drop k f]
  unfold St.aA;rw[List.map_append,List.sum_append]
 omega
theorem kY(A:Option Addr)(n c:Nat)(f:List St.It)(w:World)(hn:f.length=n)(h:aH w A f)(hl:n<=1000000000000)(ht:aV f<=4611686018427387904) :
  Calls Tryz.prog 48 #[.slice A n c] w λe w'=>e=Yp (Yh .i64 (St.aA f:Nat))/\ac w w':=by
 have H:=aa h;have HN:=aa hn;have hll:=gM f;clear h hn;go_enter Tryz.func48,Tryz.ntmps48;go_wp2;go_loopw [3,8] (λs3 s8 wr=>SC w f s3 s8 wr) (λ_ s8 _=>n+1-(intOf s8).toNat)
 case atStart=>exact⟨0,by omega,rfl,rfl,ac.refl _⟩
 case round=>
  obtain⟨k,hk,rfl,rfl,hu⟩:=hrel;have HU:=aa hu;clear hu;have hN:=HN.out
  by_cases hlt:k<n
  ·have aI:k<f.length:=by omega
   obtain⟨b,off,rfl,hb,hc⟩:=(H.out.ai HU.out) (by omega);obtain⟨c0,c1,c2⟩:=hc k aI;have hlk:=p7 f k aI;have hle:=FD f (k+1);have hxl:=pA f k aI;have hT:=fK f k;generalize f[k]=x at c0 c1 c2 hlk hxl;obtain⟨kd,tx,id⟩:=x;simp only at c0 c1 c2 hxl;have hwd:=aa (λW=>xG kd tx id W);generalize St.aZ (kd,tx,id)=wd at hwd hlk;haveI:af b wr:=af.of hb;have hlk2:((St.aA (f.take (k+1)):Nat):Int)=((St.aA (f.take k):Nat):Int)+(wd:Int):=by omega
   have sX:=aa hlk2;have hsm:St.aA (f.take k)+wd<=4611686018427387904+1000000000000:=by omega
   generalize St.aA (f.take k)=m at sX hsm |-;clear hc aI hlk hlk2 hle hll hxl hT;go_wp2_with fail;refine(hwd.out _).mono ?_;rintro e w3 ⟨rfl,hu3⟩;have a7:=aa (HU.out.trans (ac.trans (uZ) hu3));clear hu3 c0 c1 c2;go_wp2;exact⟨⟨k+1,by omega,congrArg (Yh .i64) (by omega),by rw[sX.out],a7.out⟩,by simp[intOf];omega⟩
  have hkn:k=n:=by omega
  subst hkn;have hr:=aa (show St.aA (f.take k)=St.aA f by rw[List.take_of_length_le (by omega)]);clear hlt hll;go_wp2;go_ret;exact⟨ba (by rw[hr.out]),HU.out⟩
end
