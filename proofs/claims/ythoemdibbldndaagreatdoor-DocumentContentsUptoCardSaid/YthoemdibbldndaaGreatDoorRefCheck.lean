/- The contracts of the reference's IsContent, Check and Validate: what they give is. -/
import Derived.Test.YthoemdibbldndaaGreatDoorGB
set_option linter.unusedVariables false
set_option linter.unusedSimpArgs false
set_option maxHeartbeats 12800000
set_option maxRecDepth 20000
namespace Go.Proofs.YthoemdibbldndaaGreatDoor
open Go.RowKit
theorem rname_u(t:List UInt8)(w:World)(hs:t.length<=4611686018427387904):Calls Tryz.prog 105 #[.string ⟨t.toArray⟩] w fun e w'=>e=.returned (.string ⟨(St.nameOf t).toArray⟩)/\Und w w':=by
 refine(rname_any ⟨t.toArray⟩ w (by show t.toArray.size<=_;simpa using hs)).mono ?_;rintro e w' ⟨u,rfl,hu,rfl⟩;refine⟨?_,Und.refl _⟩;rw[<- ba_eta u,hu]
def CoRel(s:ByteArray)(i:Value):Prop:=∃ k:Nat,i=.int .i64 k/\k<=s.size/\s.data.toList.all St.contentC=(s.data.toList.drop k).all St.contentC
theorem content_no{s:List UInt8}(h:s.all St.contentC=false):St.isContentL s=false:=by unfold St.isContentL;simp[h]
theorem rcontent_any(s:ByteArray)(w:World)(hs:s.size<=4611686018427387904):Calls Tryz.prog 178 #[.string s] w fun e w'=>e=.returned (.bool (St.isContentL s.data.toList))/\w=w':=by
 have HLEN:=hid (St.len_list s)
 by_cases h64:64<s.size
 ·have z:(64:Int)<s.size:=by omega
  have hr:=hid (show St.isContentL s.data.toList=false by unfold St.isContentL;rw[HLEN.out,decide_eq_false (by omega)];rfl);go_enter Tryz.func178,Tryz.ntmps178;go_wp2;go_ret;exact⟨ret_bool hr.out.symm,rfl⟩
 ·have z:¬ (64:Int)<s.size:=by omega
  go_enter Tryz.func178,Tryz.ntmps178;go_wp2;go_loopw [3] (fun i wr=>CoRel s i/\w=wr) (fun i _=>s.size+1-(intOf i).toNat)
  case atStart=>exact⟨⟨0,rfl,by omega,rfl⟩,rfl⟩
  case round=>
   obtain⟨⟨k,rfl,hk,hl⟩,rfl⟩:=hrel;have HL:=hid hl;clear hl
   by_cases hlt:k<s.size
   ·have hcons:=St.drop_at s k hlt
    have z1:(k:Int)<s.size:=by omega
    cases hcc:St.contentC s[k]
    ·have hr:=hid (content_no (s:=s.data.toList) (by rw[HL.out,hcons];simp[hcc]))
     have hcc':=of_decide_eq_false hcc;clear hcons hcc
     by_cases q1:s[k].toNat<32
     ·have p1:(s[k].toNat:Int)<32:=by omega
      go_wp2;go_ret;exact⟨ret_bool hr.out.symm,rfl⟩
     ·have p1:¬ (s[k].toNat:Int)<32:=by omega
      by_cases q2:126<s[k].toNat
      ·have p2:(126:Int)<(s[k].toNat:Int):=by omega
       go_wp2;go_ret;exact⟨ret_bool hr.out.symm,rfl⟩
      ·have p2:¬ (126:Int)<(s[k].toNat:Int):=by omega
       rcases(show s[k].toNat=60∨s[k].toNat=62∨s[k].toNat=123∨s[k].toNat=125 by omega) with q|q|q|q
       ·have p3:((s[k].toNat:Int)==60)=true:=by simp;omega
        go_wp2;go_ret;exact⟨ret_bool hr.out.symm,rfl⟩
       ·have p3:((s[k].toNat:Int)==60)=false:=by simp;omega
        have p4:((s[k].toNat:Int)==62)=true:=by simp;omega
        go_wp2;go_ret;exact⟨ret_bool hr.out.symm,rfl⟩
       ·have p3:((s[k].toNat:Int)==60)=false:=by simp;omega
        have p4:((s[k].toNat:Int)==62)=false:=by simp;omega
        have p5:((s[k].toNat:Int)==123)=true:=by simp;omega
        go_wp2;go_ret;exact⟨ret_bool hr.out.symm,rfl⟩
       ·have p3:((s[k].toNat:Int)==60)=false:=by simp;omega
        have p4:((s[k].toNat:Int)==62)=false:=by simp;omega
        have p5:((s[k].toNat:Int)==123)=false:=by simp;omega
        have p6:((s[k].toNat:Int)==125)=true:=by simp;omega
        go_wp2;go_ret;exact⟨ret_bool hr.out.symm,rfl⟩
    ·have hl2:=hid (show s.data.toList.all St.contentC=(s.data.toList.drop (k+1)).all St.contentC by rw[HL.out,hcons];simp[hcc])
     have hcc':=of_decide_eq_true hcc;have p1:¬ (s[k].toNat:Int)<32:=by omega
     have p2:¬ (126:Int)<(s[k].toNat:Int):=by omega
     have p3:((s[k].toNat:Int)==60)=false:=by simp;omega
     have p4:((s[k].toNat:Int)==62)=false:=by simp;omega
     have p5:((s[k].toNat:Int)==123)=false:=by simp;omega
     have p6:((s[k].toNat:Int)==125)=false:=by simp;omega
     clear hcons hcc hcc';go_wp2;exact⟨⟨⟨k+1,congrArg (Value.int .i64) (by omega),by omega,hl2.out⟩,by trivial⟩,by simp[intOf];omega⟩
   ·have hke:k=s.size:=by omega
    subst hke;have hall:s.data.toList.all St.contentC=true:=by rw[HL.out,List.drop_of_length_le (by simp)];rfl
    have hr:St.isContentL s.data.toList=(St.isNameL (St.nameOf s.data.toList) && ((decide ((St.nameOf s.data.toList).length=s.size) || decide ((St.nameOf s.data.toList).length+1<s.size)) && (s.data.toList.getLast? != some 47))):=by
     unfold St.isContentL;rw[HLEN.out,decide_eq_true (by omega),hall];rfl
    obtain⟨nm,hnmd⟩:∃ nm,St.nameOf s.data.toList=nm:=⟨_,rfl⟩;have hnml:nm.length<=s.size:=by rw[<- hnmd,<- HLEN.out];exact(List.takeWhile_prefix _).length_le
    rw[hnmd] at hr;have hnc:=rname_any s w hs;rw[hnmd] at hnc;have HR:=hid hr;have HNC:=hid hnc;clear hr hnc hall hlt hk hnmd;go_wp2_with fail;refine HNC.out.mono ?_;rintro e w' ⟨t,rfl,ht,rfl⟩;have hts:t.size=nm.length:=by rw[<- ht,St.len_list]
    have hin:=risname_any t w (by omega);rw[ht] at hin;have HIN:=hid hin;clear hin ht HNC;cases hb:St.isNameL nm
    ·rw[hb] at HIN HR
     clear hb;go_wp2_with fail;refine HIN.out.mono ?_;rintro e w' ⟨rfl,rfl⟩;go_wp2;go_ret;exact⟨ret_bool (by rw[HR.out];rfl),rfl⟩
    ·rw[hb] at HIN HR
     have hn0:nm ≠ []:=by intro e;subst e;cases hb
     have hn1:0<nm.length:=List.length_pos_iff.2 hn0;obtain⟨m,hm⟩:∃ m,s.size=m+1:=⟨s.size-1,by omega⟩;have hml:m<s.size:=by omega
     have hlast:s.data.toList.getLast?=some s[m]:=by
      rw[List.getLast?_eq_getElem?,HLEN.out,show s.size-1=m by omega];exact List.getElem?_eq_getElem (by rw[HLEN.out];exact hml)
     rw[hlast] at HR;have z3:(s.size:Int)-1=(m:Int):=by omega
     have z4:(m:Int)<s.size:=by omega
     have hc47:(some s[m] != some 47)=!(((s[m].toNat:Int)==47)):=by
      by_cases h:s[m].toNat=47
      ·have:s[m]=47:=by apply UInt8.toNat_inj.1;simpa using h
       rw[this];rfl
      ·have h2:s[m] ≠ 47:=fun e=>h (by rw[e];rfl)
       have h3:((s[m].toNat:Int)==47)=false:=by simp;omega
       rw[h3];simp[h2]
     rw[hc47] at HR;clear hb hn0 hlast hc47
     by_cases q1:nm.length=s.size
     ·have p1:((t.size:Int)==(s.size:Int))=true:=by simp;omega
      rw[decide_eq_true q1] at HR
      by_cases q3:s[m].toNat=47
      ·have p3:((s[m].toNat:Int)==47)=true:=by simp;omega
       have p4:((s[m].toNat:Int) != 47)=false:=by simp;omega
       rw[p3] at HR;go_wp2_with fail;refine HIN.out.mono ?_;rintro e w' ⟨rfl,rfl⟩;go_wp2;go_ret;exact⟨ret_bool (by rw[HR.out];rfl),rfl⟩
      ·have p3:((s[m].toNat:Int)==47)=false:=by simp;omega
       have p4:((s[m].toNat:Int) != 47)=true:=by simp;omega
       rw[p3] at HR;go_wp2_with fail;refine HIN.out.mono ?_;rintro e w' ⟨rfl,rfl⟩;go_wp2;go_ret;exact⟨ret_bool (by rw[HR.out];rfl),rfl⟩
     ·have p1:((t.size:Int)==(s.size:Int))=false:=by simp;omega
      rw[decide_eq_false q1] at HR
      by_cases q2:nm.length+1<s.size
      ·have p2:(t.size:Int)+1<s.size:=by omega
       rw[decide_eq_true q2] at HR
       by_cases q3:s[m].toNat=47
       ·have p3:((s[m].toNat:Int)==47)=true:=by simp;omega
        have p4:((s[m].toNat:Int) != 47)=false:=by simp;omega
        rw[p3] at HR;go_wp2_with fail;refine HIN.out.mono ?_;rintro e w' ⟨rfl,rfl⟩;go_wp2;go_ret;exact⟨ret_bool (by rw[HR.out];rfl),rfl⟩
       ·have p3:((s[m].toNat:Int)==47)=false:=by simp;omega
        have p4:((s[m].toNat:Int) != 47)=true:=by simp;omega
        rw[p3] at HR;go_wp2_with fail;refine HIN.out.mono ?_;rintro e w' ⟨rfl,rfl⟩;go_wp2;go_ret;exact⟨ret_bool (by rw[HR.out];rfl),rfl⟩
      ·have p2:¬ (t.size:Int)+1<s.size:=by omega
       rw[decide_eq_false q2] at HR;go_wp2_with fail;refine HIN.out.mono ?_;rintro e w' ⟨rfl,rfl⟩;go_wp2;go_ret;exact⟨ret_bool (by rw[HR.out];rfl),rfl⟩
def CkRel(W:World)(f:List St.It)(x:St.It)(n:Nat)(s80:Value)(wr:World):Prop:=∃ j:Nat,j<=n/\s80=.int .i64 j/\(∀ y ∈ f.take j,St.clash x y=false)/\Und W wr
theorem CkRel.und{W:World}{f:List St.It}{x:St.It}{n:Nat}{s80:Value}{wr w':World}(h:CkRel W f x n s80 wr)(u:Und wr w'):CkRel W f x n s80 w':=by
 obtain⟨j,h1,h2,h3,h4⟩:=h;exact⟨j,h1,h2,h3,h4.trans u⟩
theorem ck_step{f:List St.It}{x:St.It}{j:Nat}(h:∀ y ∈ f.take j,St.clash x y=false)(hj:j<f.length)(hc:St.clash x f[j]=false):∀ y ∈ f.take (j+1),St.clash x y=false:=by
 intro y hy;rw[List.take_add_one,List.getElem?_eq_getElem hj] at hy;rcases List.mem_append.1 hy with hy|hy
 ·exact h y hy
 ·simp at hy;subst hy;exact hc
theorem ck_found{f:List St.It}{x:St.It}{j:Nat}(hj:j<f.length)(hc:St.clash x f[j]=true):f.any (St.clash x)=true:=List.any_eq_true.2 ⟨f[j],List.getElem_mem hj,hc⟩
theorem ck_end{f:List St.It}{x:St.It}{n:Nat}(h:∀ y ∈ f.take n,St.clash x y=false)(hn:f.length=n):f.any (St.clash x)=false:=by
 rw[List.take_of_length_le (by omega)] at h;refine Bool.eq_false_iff.2 fun e=>?_
 obtain⟨y,hy,hc⟩:=List.any_eq_true.1 e;rw[h y hy] at hc;cases hc
theorem tot_at(f:List St.It)(j:Nat)(h:j<f.length):f[j].2.1.length<=tot f:=by
 have:=tot_le f (j+1)
 rw[tot_take f j h] at this;omega
theorem rcheck_any(A:Option Addr)(n c:Nat)(f:List St.It)(k:Int)(t:List UInt8)(i:Int)(w:World)(hn:f.length=n)(hnc:n<=c)(hc63:c<=9223372036854775807)(h:ItemsAt w A f)(hl:n<=1000000000000)(ht:tot f<=4611686018427387904)(htl:t.length<=4611686018427387904) :
  Calls Tryz.prog 148 #[.slice A n c,.agg #[.int .i64 k,.string ⟨t.toArray⟩,.int .i64 i]] w fun e w'=>e=.returned (.int .i64 (St.checkL f (k,t,i)))/\Und w w':=by
 have H:=hid h;have HN:=hid hn;have HT:=hid ht;have HBU:=hid ((Und.refl w).alloc (.cells #[.int .i64 k,.string ⟨t.toArray⟩,.int .i64 i] 36));have htz:(⟨t.toArray⟩:ByteArray).size=t.length:=by show t.toArray.size=_;simp
 have hnml:=hid (fun W=>risname_any ⟨t.toArray⟩ W (by omega));have hcnt:=hid (fun W=>rcontent_any ⟨t.toArray⟩ W (by omega));clear h hn ht
 by_cases k1:k=1
 ·subst k1
  by_cases t0:t=[]
  ·subst t0
   have hr:=hid (show St.checkL f (1,[],i)=1 by unfold St.checkL;simp);go_enter Tryz.func148,Tryz.ntmps148;go_wp2;go_ret;exact⟨ret_int hr.out.symm,(by apply_rules[uUe,uUa,uUb,uUc,uUd])⟩
  ·have hte:((⟨t.toArray⟩:ByteArray).toList==[])=false:=by rw[Lib.toList_data];simpa using t0
   have hte2:t.isEmpty=false:=by simpa using t0
   by_cases i0:i=0
   ·subst i0
    by_cases n0:n=0
    ·subst n0
     have hf:f=[]:=List.eq_nil_of_length_eq_zero HN.out;have hr:=hid (show St.checkL f (1,t,0)=0 by unfold St.checkL;simp[t0,hf]);clear t0 hf;go_enter Tryz.func148,Tryz.ntmps148;go_wp2;go_ret;exact⟨ret_int hr.out.symm,(by apply_rules[uUe,uUa,uUb,uUc,uUd])⟩
    ·obtain⟨b,off,rfl,hb,hc⟩:=(H.out.und HBU.out) (by rw[HN.out];omega)
     obtain⟨m,rfl⟩:∃ m,n=m+1:=⟨n-1,by omega⟩;have hm:m<f.length:=by rw[HN.out];omega
     obtain⟨c0,_,_⟩:=hc m hm;have hlast:f.getLast?=some f[m]:=by rw[List.getLast?_eq_getElem?,HN.out];simp[hm]
     have hr:St.checkL f (1,t,0)=if f[m].1=1 then 1 else 0:=by unfold St.checkL;simp[t0,hlast]
     generalize f[m]=y at c0 hr;obtain⟨yk,yt,yi⟩:=y;simp only at c0 hr;have HR:=hid hr;have hm1:((m+1:Nat):Int)-1=(m:Int):=by omega
     haveI:LtW b (w.alloc (.cells #[.int .i64 1,.string ⟨t.toArray⟩,.int .i64 0] 36)):=LtW.of hb;have hbw:b<w.heap.size∨b=w.heap.size:=by simp at hb;omega
     clear t0 hc hr hlast n0 hb
     by_cases hyk:yk=1
     ·subst hyk
      go_enter Tryz.func148,Tryz.ntmps148;go_wp2;go_ret;exact⟨ret_int (by rw[HR.out];rfl),(by apply_rules[uUe,uUa,uUb,uUc,uUd])⟩
     ·have hyk2:(yk==1)=false:=by simpa using hyk
      go_enter Tryz.func148,Tryz.ntmps148;go_wp2;go_ret;exact⟨ret_int (by rw[HR.out,if_neg hyk]),(by apply_rules[uUe,uUa,uUb,uUc,uUd])⟩
   ·have z1:(i==0)=false:=by simpa using i0
    have z2:(i != 0)=true:=by simpa using i0
    have hr:=hid (show St.checkL f (1,t,i)=1 by unfold St.checkL;simp[i0]);clear t0 i0;go_enter Tryz.func148,Tryz.ntmps148;go_wp2;go_ret;exact⟨ret_int hr.out.symm,(by apply_rules[uUe,uUa,uUb,uUc,uUd])⟩
 ·have z1:(k==1)=false:=by simpa using k1
  by_cases k5:k=5
  ·subst k5
   clear k1 z1;cases hnb:St.isNameL t
   ·have hr:=hid (show St.checkL f (5,t,i)=1 by unfold St.checkL;simp[hnb])
    have HNM:Hid (∀ W,Calls Tryz.prog 177 #[.string ⟨t.toArray⟩] W fun e w'=>e=.returned (.bool false)/\W=w'):=hid (fun W=>by have:=hnml.out W;simp only[hnb] at this;exact this);clear hnb;go_enter Tryz.func148,Tryz.ntmps148;go_wp2_with (go_at_call 177;refine(HNM.out _).mono ?_;rintro e w' ⟨rfl,rfl⟩);go_ret;exact⟨ret_int hr.out.symm,(by apply_rules[uUe,uUa,uUb,uUc,uUd])⟩
   ·have HNM:Hid (∀ W,Calls Tryz.prog 177 #[.string ⟨t.toArray⟩] W fun e w'=>e=.returned (.bool true)/\W=w'):=hid (fun W=>by have:=hnml.out W;simp only[hnb] at this;exact this)
    by_cases i0:i=0
    ·subst i0
     have hr:=hid (show St.checkL f (5,t,0)=0 by unfold St.checkL;simp[hnb]);clear hnb;go_enter Tryz.func148,Tryz.ntmps148;go_wp2_with (go_at_call 177;refine(HNM.out _).mono ?_;rintro e w' ⟨rfl,rfl⟩);go_ret;exact⟨ret_int hr.out.symm,(by apply_rules[uUe,uUa,uUb,uUc,uUd])⟩
    ·have z2:(i==0)=false:=by simpa using i0
     have z3:(i != 0)=true:=by simpa using i0
     have hr:=hid (show St.checkL f (5,t,i)=1 by unfold St.checkL;simp[i0]);clear hnb i0;go_enter Tryz.func148,Tryz.ntmps148;go_wp2_with (go_at_call 177;refine(HNM.out _).mono ?_;rintro e w' ⟨rfl,rfl⟩);go_ret;exact⟨ret_int hr.out.symm,(by apply_rules[uUe,uUa,uUb,uUc,uUd])⟩
  ·have z5:(k==5)=false:=by simpa using k5
   by_cases k2:k=2
   ·subst k2
    clear k1 k5 z1 z5;cases hnb:St.isContentL t
    ·have hr:=hid (show St.checkL f (2,t,i)=1 by unfold St.checkL;simp[hnb])
     have HNM:Hid (∀ W,Calls Tryz.prog 178 #[.string ⟨t.toArray⟩] W fun e w'=>e=.returned (.bool false)/\W=w'):=hid (fun W=>by have:=hcnt.out W;simp only[hnb] at this;exact this);clear hnb;go_enter Tryz.func148,Tryz.ntmps148;go_wp2_with (go_at_call 178;refine(HNM.out _).mono ?_;rintro e w' ⟨rfl,rfl⟩);go_ret;exact⟨ret_int hr.out.symm,(by apply_rules[uUe,uUa,uUb,uUc,uUd])⟩
    ·have HNM:Hid (∀ W,Calls Tryz.prog 178 #[.string ⟨t.toArray⟩] W fun e w'=>e=.returned (.bool true)/\W=w'):=hid (fun W=>by have:=hcnt.out W;simp only[hnb] at this;exact this)
     by_cases i1:i<1
     ·have hr:=hid (show St.checkL f (2,t,i)=1 by unfold St.checkL;simp[hnb];omega)
      clear hnb;go_enter Tryz.func148,Tryz.ntmps148;go_wp2_with (go_at_call 178;refine(HNM.out _).mono ?_;rintro e w' ⟨rfl,rfl⟩);go_ret;exact⟨ret_int hr.out.symm,(by apply_rules[uUe,uUa,uUb,uUc,uUd])⟩
     ·by_cases i9:999<i
      ·have hr:=hid (show St.checkL f (2,t,i)=1 by unfold St.checkL;simp[hnb];omega)
       clear hnb;go_enter Tryz.func148,Tryz.ntmps148;go_wp2_with (go_at_call 178;refine(HNM.out _).mono ?_;rintro e w' ⟨rfl,rfl⟩);go_ret;exact⟨ret_int hr.out.symm,(by apply_rules[uUe,uUa,uUb,uUc,uUd])⟩
      ·have HR:=hid (show St.checkL f (2,t,i)=if f.any (St.clash (2,t,i)) then 7 else 0 by
        unfold St.checkL;simp only[hnb,show (1:Int)<=i by omega,show i<=999 by omega]
        simp)
       have HB:=HBU;clear hnb;go_enter Tryz.func148,Tryz.ntmps148;go_wp2_with (go_at_call 178;refine(HNM.out _).mono ?_;rintro e w' ⟨rfl,rfl⟩);go_loopw [80] (fun s80 wr=>CkRel (w.alloc (.cells #[.int .i64 2,.string ⟨t.toArray⟩,.int .i64 i] 36)) f (2,t,i) n s80 wr) (fun s80 _=>n+1-(intOf s80).toNat)
       case atStart=>exact⟨0,by omega,rfl,by simp,(by apply_rules[uUe,uUa,uUb,uUc,uUd])⟩
       case round=>
        obtain⟨j,hj,rfl,hcl,hu⟩:=hrel;have HCL:=hid hcl;have HU:=hid hu;have HUB:=hid (HB.out.trans hu);have HT2:=HT.out;have b0:wr.cell? ⟨w.heap.size,0,none⟩=some (.int .i64 2):=(hu.cell (p:=⟨w.heap.size,0,none⟩) (by simp)).trans (by simp);have b1:wr.cell? ⟨w.heap.size,1,none⟩=some (.string ⟨t.toArray⟩):=(hu.cell (p:=⟨w.heap.size,1,none⟩) (by simp)).trans (by simp);have b2:wr.cell? ⟨w.heap.size,2,none⟩=some (.int .i64 i):=(hu.cell (p:=⟨w.heap.size,2,none⟩) (by simp)).trans (by simp);haveI:LtW w.heap.size wr:=LtW.of (zbL _ _ b0);clear hcl hu
        by_cases hlt:j<n
        ·have hlt2:j<f.length:=by rw[HN.out];exact hlt
         obtain⟨b,off,rfl,hb,hc⟩:=(H.out.und HUB.out) (by omega);obtain⟨c0,c1,c2⟩:=hc j hlt2;have hst:=hid (ck_step HCL.out hlt2);have hfo:=hid (ck_found (f:=f) (x:=(2,t,i)) hlt2);have hyl:=hid (tot_at f j hlt2);generalize f[j]=y at c0 c1 c2 hst hfo hyl;obtain⟨yk,yt,yi⟩:=y;simp only at c0 c1 c2;haveI:LtW b wr:=LtW.of hb;clear hc hlt2;go_wp2_with fail;refine(istag_any yk ⟨yt.toArray⟩ yi _).mono ?_;rintro e w3 ⟨rfl,hu3⟩;have hu3':Und wr w3:=Und.trans ((by apply_rules[uUe,uUa,uUb,uUc,uUd])) hu3;have d0:w3.cell? ⟨wr.heap.size,0,none⟩=some (.int .i64 yk):=(hu3.cell (p:=⟨wr.heap.size,0,none⟩) (by simp)).trans (by simp);have d1:w3.cell? ⟨wr.heap.size,1,none⟩=some (.string ⟨yt.toArray⟩):=(hu3.cell (p:=⟨wr.heap.size,1,none⟩) (by simp)).trans (by simp);have d2:w3.cell? ⟨wr.heap.size,2,none⟩=some (.int .i64 yi):=(hu3.cell (p:=⟨wr.heap.size,2,none⟩) (by simp)).trans (by simp);have e0:w3.cell? ⟨w.heap.size,0,none⟩=some (.int .i64 2):=(hu3'.cell (LtW.lt inferInstance)).trans b0;have e1:w3.cell? ⟨w.heap.size,1,none⟩=some (.string ⟨t.toArray⟩):=(hu3'.cell (LtW.lt inferInstance)).trans b1;have e2:w3.cell? ⟨w.heap.size,2,none⟩=some (.int .i64 i):=(hu3'.cell (LtW.lt inferInstance)).trans b2;haveI:LtW w.heap.size w3:=LtW.of (zbL _ _ e0);haveI:LtW wr.heap.size w3:=LtW.of (zbL _ _ d0);have HU3:=hid (HU.out.trans hu3');clear hu3 hu3' b0 b1 b2 c0 c1 c2 HU HUB;have hrel2:St.clash (2,t,i) (yk,yt,yi)=false->CkRel (w.alloc (.cells #[.int .i64 2,.string ⟨t.toArray⟩,.int .i64 i] 36)) f (2,t,i) n (.int .i64 ((j:Int)+1)) w3:=fun h=>⟨j+1,by omega,congrArg (Value.int .i64) (by omega),hst.out h,HU3.out⟩
         have HREL2:=hid hrel2;clear hrel2;cases htk:St.isTagK yk
         ·have hcf:=hid (HREL2.out (by unfold St.clash;rw[htk];rfl))
          clear htk HREL2;go_wp2;exact⟨hcf.out,by simp[intOf];omega⟩
         ·by_cases hyi:yi=i
          ·subst hyi
           have v1:(yi==yi)=true:=beq_self_eq_true _;have v2:(yi != yi)=false:=by simp
           have hct:=hid (hfo.out (by unfold St.clash;simp[htk]));clear htk HREL2;go_wp2_with fail
           first|refine wp_region_under2 (by kernel_rfl) (by kernel_rfl) ?_|refine wp_region_under (by kernel_rfl) (by kernel_rfl) ?_
           repeat (go_big_quiet_step (first|(fail)))
           refine wpQuiet_nil ?_;rintro _ ⟨X,rfl⟩;go_wp2;go_ret;refine⟨ret_int ?_,HBU.out.trans (HU3.out.trans (by apply_rules[uUe,uUa,uUb,uUc,uUd]))⟩;rw[HR.out,hct.out];rfl
          ·have v1:(yi==i)=false:=by simpa using hyi
           have v2:(yi != i)=true:=by simpa using hyi
           have hcf:=hid (HREL2.out (by unfold St.clash;simp[hyi]));clear htk HREL2 hyi;go_wp2;exact⟨hcf.out,by simp[intOf];omega⟩
        ·have hjn:j=n:=by omega
         subst hjn;have hnone:=hid (ck_end HCL.out HN.out);clear hlt b0 b1 b2;go_wp2;go_ret;refine⟨ret_int ?_,HBU.out.trans HU.out⟩;rw[HR.out,hnone.out];rfl
   by_cases k4:k=4
   ·subst k4
    clear k1 k5 z1 z5 k2;cases hnb:St.isContentL t
    ·have hr:=hid (show St.checkL f (4,t,i)=1 by unfold St.checkL;simp[hnb])
     have HNM:Hid (∀ W,Calls Tryz.prog 178 #[.string ⟨t.toArray⟩] W fun e w'=>e=.returned (.bool false)/\W=w'):=hid (fun W=>by have:=hcnt.out W;simp only[hnb] at this;exact this);clear hnb;go_enter Tryz.func148,Tryz.ntmps148;go_wp2_with (go_at_call 178;refine(HNM.out _).mono ?_;rintro e w' ⟨rfl,rfl⟩);go_ret;exact⟨ret_int hr.out.symm,(by apply_rules[uUe,uUa,uUb,uUc,uUd])⟩
    ·have HNM:Hid (∀ W,Calls Tryz.prog 178 #[.string ⟨t.toArray⟩] W fun e w'=>e=.returned (.bool true)/\W=w'):=hid (fun W=>by have:=hcnt.out W;simp only[hnb] at this;exact this)
     by_cases i1:i<1
     ·have hr:=hid (show St.checkL f (4,t,i)=1 by unfold St.checkL;simp[hnb];omega)
      clear hnb;go_enter Tryz.func148,Tryz.ntmps148;go_wp2_with (go_at_call 178;refine(HNM.out _).mono ?_;rintro e w' ⟨rfl,rfl⟩);go_ret;exact⟨ret_int hr.out.symm,(by apply_rules[uUe,uUa,uUb,uUc,uUd])⟩
     ·by_cases i9:999<i
      ·have hr:=hid (show St.checkL f (4,t,i)=1 by unfold St.checkL;simp[hnb];omega)
       clear hnb;go_enter Tryz.func148,Tryz.ntmps148;go_wp2_with (go_at_call 178;refine(HNM.out _).mono ?_;rintro e w' ⟨rfl,rfl⟩);go_ret;exact⟨ret_int hr.out.symm,(by apply_rules[uUe,uUa,uUb,uUc,uUd])⟩
      ·have HR:=hid (show St.checkL f (4,t,i)=if f.any (St.clash (4,t,i)) then 7 else 0 by
        unfold St.checkL;simp only[hnb,show (1:Int)<=i by omega,show i<=999 by omega]
        simp)
       have HB:=HBU;clear hnb;go_enter Tryz.func148,Tryz.ntmps148;go_wp2_with (go_at_call 178;refine(HNM.out _).mono ?_;rintro e w' ⟨rfl,rfl⟩);go_loopw [80] (fun s80 wr=>CkRel (w.alloc (.cells #[.int .i64 4,.string ⟨t.toArray⟩,.int .i64 i] 36)) f (4,t,i) n s80 wr) (fun s80 _=>n+1-(intOf s80).toNat)
       case atStart=>exact⟨0,by omega,rfl,by simp,(by apply_rules[uUe,uUa,uUb,uUc,uUd])⟩
       case round=>
        obtain⟨j,hj,rfl,hcl,hu⟩:=hrel;have HCL:=hid hcl;have HU:=hid hu;have HUB:=hid (HB.out.trans hu);have HT2:=HT.out;have b0:wr.cell? ⟨w.heap.size,0,none⟩=some (.int .i64 4):=(hu.cell (p:=⟨w.heap.size,0,none⟩) (by simp)).trans (by simp);have b1:wr.cell? ⟨w.heap.size,1,none⟩=some (.string ⟨t.toArray⟩):=(hu.cell (p:=⟨w.heap.size,1,none⟩) (by simp)).trans (by simp);have b2:wr.cell? ⟨w.heap.size,2,none⟩=some (.int .i64 i):=(hu.cell (p:=⟨w.heap.size,2,none⟩) (by simp)).trans (by simp);haveI:LtW w.heap.size wr:=LtW.of (zbL _ _ b0);clear hcl hu
        by_cases hlt:j<n
        ·have hlt2:j<f.length:=by rw[HN.out];exact hlt
         obtain⟨b,off,rfl,hb,hc⟩:=(H.out.und HUB.out) (by omega);obtain⟨c0,c1,c2⟩:=hc j hlt2;have hst:=hid (ck_step HCL.out hlt2);have hfo:=hid (ck_found (f:=f) (x:=(4,t,i)) hlt2);have hyl:=hid (tot_at f j hlt2);generalize f[j]=y at c0 c1 c2 hst hfo hyl;obtain⟨yk,yt,yi⟩:=y;simp only at c0 c1 c2;haveI:LtW b wr:=LtW.of hb;clear hc hlt2;go_wp2_with fail;refine(istag_any yk ⟨yt.toArray⟩ yi _).mono ?_;rintro e w3 ⟨rfl,hu3⟩;have hu3':Und wr w3:=Und.trans ((by apply_rules[uUe,uUa,uUb,uUc,uUd])) hu3;have d0:w3.cell? ⟨wr.heap.size,0,none⟩=some (.int .i64 yk):=(hu3.cell (p:=⟨wr.heap.size,0,none⟩) (by simp)).trans (by simp);have d1:w3.cell? ⟨wr.heap.size,1,none⟩=some (.string ⟨yt.toArray⟩):=(hu3.cell (p:=⟨wr.heap.size,1,none⟩) (by simp)).trans (by simp);have d2:w3.cell? ⟨wr.heap.size,2,none⟩=some (.int .i64 yi):=(hu3.cell (p:=⟨wr.heap.size,2,none⟩) (by simp)).trans (by simp);have e0:w3.cell? ⟨w.heap.size,0,none⟩=some (.int .i64 4):=(hu3'.cell (LtW.lt inferInstance)).trans b0;have e1:w3.cell? ⟨w.heap.size,1,none⟩=some (.string ⟨t.toArray⟩):=(hu3'.cell (LtW.lt inferInstance)).trans b1;have e2:w3.cell? ⟨w.heap.size,2,none⟩=some (.int .i64 i):=(hu3'.cell (LtW.lt inferInstance)).trans b2;haveI:LtW w.heap.size w3:=LtW.of (zbL _ _ e0);haveI:LtW wr.heap.size w3:=LtW.of (zbL _ _ d0);have HU3:=hid (HU.out.trans hu3');clear hu3 hu3' b0 b1 b2 c0 c1 c2 HU HUB;have hrel2:St.clash (4,t,i) (yk,yt,yi)=false->CkRel (w.alloc (.cells #[.int .i64 4,.string ⟨t.toArray⟩,.int .i64 i] 36)) f (4,t,i) n (.int .i64 ((j:Int)+1)) w3:=fun h=>⟨j+1,by omega,congrArg (Value.int .i64) (by omega),hst.out h,HU3.out⟩
         have HREL2:=hid hrel2;clear hrel2;cases htk:St.isTagK yk
         ·have hcf:=hid (HREL2.out (by unfold St.clash;rw[htk];rfl))
          clear htk HREL2;go_wp2;exact⟨hcf.out,by simp[intOf];omega⟩
         ·by_cases hyi:yi=i
          ·subst hyi
           have v1:(yi==yi)=true:=beq_self_eq_true _;have v2:(yi != yi)=false:=by simp
           have hct:=hid (hfo.out (by unfold St.clash;simp[htk]));clear htk HREL2;go_wp2_with fail
           first|refine wp_region_under2 (by kernel_rfl) (by kernel_rfl) ?_|refine wp_region_under (by kernel_rfl) (by kernel_rfl) ?_
           repeat (go_big_quiet_step (first|(fail)))
           refine wpQuiet_nil ?_;rintro _ ⟨X,rfl⟩;go_wp2;go_ret;refine⟨ret_int ?_,HBU.out.trans (HU3.out.trans (by apply_rules[uUe,uUa,uUb,uUc,uUd]))⟩;rw[HR.out,hct.out];rfl
          ·have v1:(yi==i)=false:=by simpa using hyi
           have v2:(yi != i)=true:=by simpa using hyi
           have hcf:=hid (HREL2.out (by unfold St.clash;simp[hyi]));clear htk HREL2 hyi;go_wp2;exact⟨hcf.out,by simp[intOf];omega⟩
        ·have hjn:j=n:=by omega
         subst hjn;have hnone:=hid (ck_end HCL.out HN.out);clear hlt b0 b1 b2;go_wp2;go_ret;refine⟨ret_int ?_,HBU.out.trans HU.out⟩;rw[HR.out,hnone.out];rfl
   by_cases k3:k=3
   ·subst k3
    clear k1 k5 z1 z5 k2 k4;cases hnb:St.isNameL t
    ·have hr:=hid (show St.checkL f (3,t,i)=1 by unfold St.checkL;simp[hnb])
     have HNM:Hid (∀ W,Calls Tryz.prog 177 #[.string ⟨t.toArray⟩] W fun e w'=>e=.returned (.bool false)/\W=w'):=hid (fun W=>by have:=hnml.out W;simp only[hnb] at this;exact this);clear hnb;go_enter Tryz.func148,Tryz.ntmps148;go_wp2_with (go_at_call 177;refine(HNM.out _).mono ?_;rintro e w' ⟨rfl,rfl⟩);go_ret;exact⟨ret_int hr.out.symm,(by apply_rules[uUe,uUa,uUb,uUc,uUd])⟩
    ·have HNM:Hid (∀ W,Calls Tryz.prog 177 #[.string ⟨t.toArray⟩] W fun e w'=>e=.returned (.bool true)/\W=w'):=hid (fun W=>by have:=hnml.out W;simp only[hnb] at this;exact this)
     by_cases i1:i<1
     ·have hr:=hid (show St.checkL f (3,t,i)=1 by unfold St.checkL;simp[hnb];omega)
      clear hnb;go_enter Tryz.func148,Tryz.ntmps148;go_wp2_with (go_at_call 177;refine(HNM.out _).mono ?_;rintro e w' ⟨rfl,rfl⟩);go_ret;exact⟨ret_int hr.out.symm,(by apply_rules[uUe,uUa,uUb,uUc,uUd])⟩
     ·by_cases i9:999<i
      ·have hr:=hid (show St.checkL f (3,t,i)=1 by unfold St.checkL;simp[hnb];omega)
       clear hnb;go_enter Tryz.func148,Tryz.ntmps148;go_wp2_with (go_at_call 177;refine(HNM.out _).mono ?_;rintro e w' ⟨rfl,rfl⟩);go_ret;exact⟨ret_int hr.out.symm,(by apply_rules[uUe,uUa,uUb,uUc,uUd])⟩
      ·have HR:=hid (show St.checkL f (3,t,i)=if f.any (St.clash (3,t,i)) then 7 else 0 by
        unfold St.checkL;simp only[hnb,show (1:Int)<=i by omega,show i<=999 by omega]
        simp)
       have HB:=HBU;clear hnb;go_enter Tryz.func148,Tryz.ntmps148;go_wp2_with (go_at_call 177;refine(HNM.out _).mono ?_;rintro e w' ⟨rfl,rfl⟩);go_loopw [80] (fun s80 wr=>CkRel (w.alloc (.cells #[.int .i64 3,.string ⟨t.toArray⟩,.int .i64 i] 36)) f (3,t,i) n s80 wr) (fun s80 _=>n+1-(intOf s80).toNat)
       case atStart=>exact⟨0,by omega,rfl,by simp,(by apply_rules[uUe,uUa,uUb,uUc,uUd])⟩
       case round=>
        obtain⟨j,hj,rfl,hcl,hu⟩:=hrel;have HCL:=hid hcl;have HU:=hid hu;have HUB:=hid (HB.out.trans hu);have HT2:=HT.out;have b0:wr.cell? ⟨w.heap.size,0,none⟩=some (.int .i64 3):=(hu.cell (p:=⟨w.heap.size,0,none⟩) (by simp)).trans (by simp);have b1:wr.cell? ⟨w.heap.size,1,none⟩=some (.string ⟨t.toArray⟩):=(hu.cell (p:=⟨w.heap.size,1,none⟩) (by simp)).trans (by simp);have b2:wr.cell? ⟨w.heap.size,2,none⟩=some (.int .i64 i):=(hu.cell (p:=⟨w.heap.size,2,none⟩) (by simp)).trans (by simp);haveI:LtW w.heap.size wr:=LtW.of (zbL _ _ b0);clear hcl hu
        by_cases hlt:j<n
        ·have hlt2:j<f.length:=by rw[HN.out];exact hlt
         obtain⟨b,off,rfl,hb,hc⟩:=(H.out.und HUB.out) (by omega);obtain⟨c0,c1,c2⟩:=hc j hlt2;have hst:=hid (ck_step HCL.out hlt2);have hfo:=hid (ck_found (f:=f) (x:=(3,t,i)) hlt2);have hyl:=hid (tot_at f j hlt2);generalize f[j]=y at c0 c1 c2 hst hfo hyl;obtain⟨yk,yt,yi⟩:=y;simp only at c0 c1 c2;haveI:LtW b wr:=LtW.of hb;clear hc hlt2;go_wp2_with fail;refine(istag_any yk ⟨yt.toArray⟩ yi _).mono ?_;rintro e w3 ⟨rfl,hu3⟩;have hu3':Und wr w3:=Und.trans ((by apply_rules[uUe,uUa,uUb,uUc,uUd])) hu3;have d0:w3.cell? ⟨wr.heap.size,0,none⟩=some (.int .i64 yk):=(hu3.cell (p:=⟨wr.heap.size,0,none⟩) (by simp)).trans (by simp);have d1:w3.cell? ⟨wr.heap.size,1,none⟩=some (.string ⟨yt.toArray⟩):=(hu3.cell (p:=⟨wr.heap.size,1,none⟩) (by simp)).trans (by simp);have d2:w3.cell? ⟨wr.heap.size,2,none⟩=some (.int .i64 yi):=(hu3.cell (p:=⟨wr.heap.size,2,none⟩) (by simp)).trans (by simp);have e0:w3.cell? ⟨w.heap.size,0,none⟩=some (.int .i64 3):=(hu3'.cell (LtW.lt inferInstance)).trans b0;have e1:w3.cell? ⟨w.heap.size,1,none⟩=some (.string ⟨t.toArray⟩):=(hu3'.cell (LtW.lt inferInstance)).trans b1;have e2:w3.cell? ⟨w.heap.size,2,none⟩=some (.int .i64 i):=(hu3'.cell (LtW.lt inferInstance)).trans b2;haveI:LtW w.heap.size w3:=LtW.of (zbL _ _ e0);haveI:LtW wr.heap.size w3:=LtW.of (zbL _ _ d0);have HU3:=hid (HU.out.trans hu3');clear hu3 hu3' b0 b1 b2 c0 c1 c2 HU HUB;have hrel2:St.clash (3,t,i) (yk,yt,yi)=false->CkRel (w.alloc (.cells #[.int .i64 3,.string ⟨t.toArray⟩,.int .i64 i] 36)) f (3,t,i) n (.int .i64 ((j:Int)+1)) w3:=fun h=>⟨j+1,by omega,congrArg (Value.int .i64) (by omega),hst.out h,HU3.out⟩
         have HREL2:=hid hrel2;clear hrel2;cases htk:St.isTagK yk
         ·have hcf:=hid (HREL2.out (by unfold St.clash;rw[htk];rfl))
          clear htk HREL2;go_wp2;exact⟨hcf.out,by simp[intOf];omega⟩
         ·by_cases hyi:yi=i
          ·subst hyi
           have v1:(yi==yi)=true:=beq_self_eq_true _;have v2:(yi != yi)=false:=by simp
           by_cases hyk:yk=2
           ·subst hyk
            have hny:=hid (fun W=>rname_u yt W (Nat.le_trans hyl.out HT2))
            by_cases hnm:St.nameOf yt=t
            ·have hcf:=hid (HREL2.out (by unfold St.clash;simp[hnm]))
             have hb:((⟨(St.nameOf yt).toArray⟩:ByteArray).toList==(⟨t.toArray⟩:ByteArray).toList)=true:=by rw[hnm];exact beq_self_eq_true _
             have hb2:((⟨(St.nameOf yt).toArray⟩:ByteArray).toList != (⟨t.toArray⟩:ByteArray).toList)=false:=by rw[hnm];simp
             clear htk HREL2;go_wp2_with fail
             first|refine wp_region_under2 (by kernel_rfl) (by kernel_rfl) ?_|refine wp_region_under (by kernel_rfl) (by kernel_rfl) ?_
             repeat (go_big_quiet_step (first|((go_at_call 105;exact Calls.under_of (hny.out _)))))
             refine wpQuiet_nil ?_;rintro _ ⟨X,rfl⟩;go_wp2;exact⟨CkRel.und hcf.out (by apply_rules[uUe,uUa,uUb,uUc,uUd]),by simp[intOf];omega⟩
            ·have hct:=hid (hfo.out (by unfold St.clash;simp[htk,hnm]))
             have hb3:(St.nameOf yt==t)=false:=by simpa using hnm
             have hb4:(St.nameOf yt != t)=true:=by simpa using hnm
             have hb:((⟨(St.nameOf yt).toArray⟩:ByteArray).toList==(⟨t.toArray⟩:ByteArray).toList)=false:=by rw[Lib.toList_data,Lib.toList_data];simpa using hnm
             have hb2:((⟨(St.nameOf yt).toArray⟩:ByteArray).toList != (⟨t.toArray⟩:ByteArray).toList)=true:=by rw[Lib.toList_data,Lib.toList_data];simpa using hnm
             clear htk HREL2;go_wp2_with fail
             first|refine wp_region_under2 (by kernel_rfl) (by kernel_rfl) ?_|refine wp_region_under (by kernel_rfl) (by kernel_rfl) ?_
             repeat (go_big_quiet_step (first|((go_at_call 105;exact Calls.under_of (hny.out _)))))
             refine wpQuiet_nil ?_;rintro _ ⟨X,rfl⟩;go_wp2;go_ret;refine⟨ret_int ?_,HBU.out.trans (HU3.out.trans (by apply_rules[uUe,uUa,uUb,uUc,uUd]))⟩;rw[HR.out,hct.out];rfl
           ·have v3:(yk==2)=false:=by simpa using hyk
            have v4:(yk != 2)=true:=by simpa using hyk
            have hct:=hid (hfo.out (by unfold St.clash;simp[htk,hyk]));clear htk HREL2 hyk;go_wp2_with fail
            first|refine wp_region_under2 (by kernel_rfl) (by kernel_rfl) ?_|refine wp_region_under (by kernel_rfl) (by kernel_rfl) ?_
            repeat (go_big_quiet_step (first|(fail)))
            refine wpQuiet_nil ?_;rintro _ ⟨X,rfl⟩;go_wp2;go_ret;refine⟨ret_int ?_,HBU.out.trans (HU3.out.trans (by apply_rules[uUe,uUa,uUb,uUc,uUd]))⟩;rw[HR.out,hct.out];rfl
          ·have v1:(yi==i)=false:=by simpa using hyi
           have v2:(yi != i)=true:=by simpa using hyi
           have hcf:=hid (HREL2.out (by unfold St.clash;simp[hyi]));clear htk HREL2 hyi;go_wp2;exact⟨hcf.out,by simp[intOf];omega⟩
        ·have hjn:j=n:=by omega
         subst hjn;have hnone:=hid (ck_end HCL.out HN.out);clear hlt b0 b1 b2;go_wp2;go_ret;refine⟨ret_int ?_,HBU.out.trans HU.out⟩;rw[HR.out,hnone.out];rfl
   have z2:(k==2)=false:=by simpa using k2
   have z4:(k==4)=false:=by simpa using k4
   have z3:(k==3)=false:=by simpa using k3
   have hr:=hid (show St.checkL f (k,t,i)=1 by unfold St.checkL;simp[k1,k2,k3,k4,k5]);clear k1 k2 k3 k4 k5;go_enter Tryz.func148,Tryz.ntmps148;go_wp2;go_ret;exact⟨ret_int hr.out.symm,(by apply_rules[uUe,uUa,uUb,uUc,uUd])⟩
theorem valid_from(b r:List St.It)(x:St.It)(h:St.checkL b x=0):St.validFrom b (x :: r)=St.validFrom (b++[x]) r:=by rw[St.validFrom,if_neg (by simp[h])]
theorem valid_stop(b r:List St.It)(x:St.It)(h:St.checkL b x ≠ 0):St.validFrom b (x :: r)=St.checkL b x:=by rw[St.validFrom,if_pos h]
def VaRel(w:World)(f:List St.It)(n:Nat)(s15:Value)(wr:World):Prop:=∃ j:Nat,j<=n/\s15=.int .i64 j/\St.validFrom [] f=St.validFrom (f.take j) (f.drop j)/\Und w wr
theorem items_take{w:World}{A:Option Addr}{f:List St.It}(h:ItemsAt w A f)(j:Nat):ItemsAt w A (f.take j):=by
 intro h0;have h1:f.length > 0:=by simp at h0;omega
 obtain⟨b,off,rfl,hb,hc⟩:=h h1;refine⟨b,off,rfl,hb,fun m hm=>?_⟩;have hm2:m<f.length:=by simp at hm;omega
 have:=hc m hm2
 simpa using this
theorem rvalid_any(A:Option Addr)(n c:Nat)(f:List St.It)(w:World)(hn:f.length=n)(hnc:n<=c)(hc63:c<=9223372036854775807)(hA:A=none->c=0)(h:ItemsAt w A f)(hl:n<=1000000000000)(ht:tot f<=4611686018427387904) :
  Calls Tryz.prog 107 #[.slice A n c] w fun e w'=>e=.returned (.int .i64 (St.validL f))/\Und w w':=by
 have H:=hid h;have HN:=hid hn;have HT:=hid ht;have hle:=hid (rlength_any A n c f w hn h hl ht);have hll:=lenL_tot f;clear h hn
 by_cases q1:512<n
 ·have z:(512:Int)<(n:Int):=by omega
  have hr:=hid (show St.validL f=3 by unfold St.validL;rw[if_pos (.inl (by rw[HN.out];exact q1))]);clear ht;go_enter Tryz.func107,Tryz.ntmps107;go_wp2;go_ret;exact⟨ret_int hr.out.symm,(by apply_rules[uUe,uUa,uUb,uUc,uUd])⟩
 ·have z:¬ (512:Int)<(n:Int):=by omega
  by_cases q2:1024<St.lenL f
  ·have z2:(1024:Int)<(St.lenL f:Nat):=by omega
   have hr:=hid (show St.validL f=3 by unfold St.validL;rw[if_pos (.inr q2)]);clear ht;go_enter Tryz.func107,Tryz.ntmps107;go_wp2_with (go_at_call 29;refine hle.out.mono ?_;rintro e w' ⟨rfl,rfl⟩);go_ret;exact⟨ret_int hr.out.symm,(by apply_rules[uUe,uUa,uUb,uUc,uUd])⟩
  ·have z2:¬ (1024:Int)<(St.lenL f:Nat):=by omega
   have hr:=hid (show St.validL f=St.validFrom [] f by unfold St.validL;rw[if_neg (by rw[HN.out];omega)]);clear ht hll;go_enter Tryz.func107,Tryz.ntmps107;go_wp2_with (go_at_call 29;refine hle.out.mono ?_;rintro e w' ⟨rfl,rfl⟩);go_loopw [15] (fun s15 wr=>VaRel w f n s15 wr) (fun s15 _=>n+1-(intOf s15).toNat)
   case atStart=>exact⟨0,by omega,rfl,by simp,Und.refl _⟩
   case round=>
    obtain⟨j,hj,rfl,hv,hu⟩:=hrel;have HV:=hid hv;have HU:=hid hu;clear hv hu
    by_cases hlt:j<n
    ·have hlt2:j<f.length:=by rw[HN.out];exact hlt
     obtain⟨b,off,rfl,hb,hc⟩:=(H.out.und HU.out) (by omega);obtain⟨c0,c1,c2⟩:=hc j hlt2;have hdr:f.drop j=f[j] :: f.drop (j+1):=List.drop_eq_getElem_cons hlt2;have htk:f.take j++[f[j]]=f.take (j+1):=by rw[List.take_add_one,List.getElem?_eq_getElem hlt2];rfl
     have hv1:=fun hc=>(HV.out.trans (by rw[hdr])).trans (valid_stop (f.take j) (f.drop (j+1)) f[j] hc)
     have hv2:=fun hc=>((HV.out.trans (by rw[hdr])).trans (valid_from (f.take j) (f.drop (j+1)) f[j] hc)).trans (by rw[htk])
     have hyl:=tot_at f j hlt2;have hck:=fun (W:World) (hW:Und wr W)=>rcheck_any (some ⟨b,off,none⟩) j c (f.take j) f[j].1 f[j].2.1 f[j].2.2 W (by simp;omega) (by omega) hc63 (items_take ((H.out.und HU.out).und hW) j) (by omega) (Nat.le_trans (tot_le f j) HT.out) (by have:=HT.out;omega)
     generalize f[j]=y at c0 c1 c2 hv1 hv2 hyl hck;obtain⟨yk,yt,yi⟩:=y;simp only at c0 c1 c2 hck;generalize St.checkL (f.take j) (yk,yt,yi)=ec at hv1 hv2 hck;have HV1:=hid hv1;have HV2:=hid hv2;have HCK:=hid hck;haveI:LtW b wr:=LtW.of hb;have hjn:¬ (j=n):=by omega
     clear hc hdr htk hv1 hv2 hck hlt2 hyl HV;go_wp2_with fail
     first|refine wp_region_under2 (by kernel_rfl) (by kernel_rfl) ?_|refine wp_region_under (by kernel_rfl) (by kernel_rfl) ?_
     repeat (go_big_quiet_step (first|((go_at_call 148;exact Calls.under_of (HCK.out _ ⟨_,rfl⟩)))))
     refine wpQuiet_nil ?_;rintro _ ⟨X,rfl⟩
     by_cases hec:ec=0
     ·subst hec
      go_wp2;exact⟨⟨j+1,by omega,congrArg (Value.int .i64) (by omega),HV2.out rfl,HU.out.trans (by apply_rules[uUe,uUa,uUb,uUc,uUd])⟩,by simp[intOf];omega⟩
     ·have z3:(ec==0)=false:=by simpa using hec
      have z4:(ec != 0)=true:=by simpa using hec
      have hf:=hid (HV1.out hec);clear hec;go_wp2;go_ret;refine⟨ret_int ?_,HU.out.trans (by apply_rules[uUe,uUa,uUb,uUc,uUd])⟩;rw[hr.out,hf.out]
    ·have hjn:j=n:=by omega
     subst hjn;have hf:=hid (show St.validFrom [] f=0 by rw[HV.out,List.drop_of_length_le (by rw[HN.out];omega)];rfl);clear hlt;go_wp2;go_ret;exact⟨ret_int (by rw[hr.out,hf.out]),HU.out⟩
end Go.Proofs.YthoemdibbldndaaGreatDoor
