/- The functions of formats 2 and 3 as the document's package calls them, and its Replace at. -/
import Derived.Test.YthoemdibbldndaaGreatDoorDcF
import Derived.Test.YthoemdibbldndaaGreatDoorEncXS
import Derived.Test.YthoemdibbldndaaGreatDoorRpp
set_option linter.all false
set_option maxHeartbeats 0
open Go.Value renaming int->VD,string->VE,slice->VF,tuple->VI
namespace Go.Proofs.YthoemdibbldndaaGreatDoor
open Go.RowKit
theorem IY(d:ByteArray)(w:World)(hd:d.size<=1000000000):Calls Tryz.prog 49 #[VD .i64 2,VE d] w (Mk.eR (D2 d.1.1) w):=by
 have H:=aa (Ir d w (by omega));have hR:iH d=D2 d.1.1:=by unfold iH D2;rw[St.aD]
 rw[hR]at H;generalize D2 d.1.1=R at *;obtain⟨f,cu,pl,er⟩:=R;clear hR;go_enter Tryz.func49,Tryz.ntmps49;go_wp2_with fail;refine H.out.mono ?_;rintro e w' ⟨A,c,rfl,hP,h1,h2,hu⟩;have HE:=aa (show Mk.eR (f,cu,pl,er) w (.returned (VI #[VF A cu.length c,VD .i64 er])) w' from⟨A,c,rfl,hP,h1,h2,hu⟩);clear hP h1 h2 hu;go_wp2;go_ret2;exact HE.out
theorem IZ(d:ByteArray)(w:World)(hd:d.size<=1000000000):Calls Tryz.prog 49 #[VD .i64 3,VE d] w (Mk.eR (D3 d.1.1) w):=by
 have H:=aa (Sh.H9 d w (by omega));have hR:Sh.gf d=D3 d.1.1:=by unfold Sh.gf D3;rw[St.aD]
 rw[hR]at H;generalize D3 d.1.1=R at *;obtain⟨f,cu,pl,er⟩:=R;clear hR;go_enter Tryz.func49,Tryz.ntmps49;go_wp2_with fail;refine H.out.mono ?_;rintro e w' ⟨A,c,rfl,hP,h1,h2,hu⟩;have HE:=aa (show Mk.eR (f,cu,pl,er) w (.returned (VI #[VF A cu.length c,VD .i64 er])) w' from⟨A,c,rfl,hP,h1,h2,hu⟩);clear hP h1 h2 hu;go_wp2;go_ret2;exact HE.out
theorem Ee(A:Option Addr)(n c:Nat)(f:List St.It)(w:World)(hn:f.length=n)(hnc:n<=c)(cN:c<=9223372036854775807)(h:aE w A f)(hl:n<=1000000000)(ht:aP f<=1000000000000) :
  Calls Tryz.prog 50 #[VD .i64 2,VF A n c] w λe w'=>e=.returned (VI #[VE ⟨(St.bj 2 f).1.toArray⟩,VD .i64 (St.bj 2 f).2])/\ac w w':=by
 have H:=aa (CF A n c f w hn hnc cN h hl ht);generalize St.bj 2 f=R at *;obtain⟨s,er⟩:=R;clear h hn ht;go_enter Tryz.func50,Tryz.ntmps50;go_wp2_with fail;refine H.out.mono ?_;rintro e w' ⟨rfl,hu⟩;have HU:=aa hu;clear hu;go_wp2;go_ret2;exact⟨rfl,HU.out⟩
theorem Ef(A:Option Addr)(n c:Nat)(f:List St.It)(w:World)(hn:f.length=n)(hnc:n<=c)(cN:c<=9223372036854775807)(h:aE w A f)(hl:n<=1000000000)(ht:aP f<=1000000000000) :
  Calls Tryz.prog 50 #[VD .i64 3,VF A n c] w λe w'=>e=.returned (VI #[VE ⟨(St.bj 3 f).1.toArray⟩,VD .i64 (St.bj 3 f).2])/\ac w w':=by
 have H:=aa (CB A n c f w hn hnc cN h hl ht);generalize St.bj 3 f=R at *;obtain⟨s,er⟩:=R;clear h hn ht;go_enter Tryz.func50,Tryz.ntmps50;go_wp2_with fail;refine H.out.mono ?_;rintro e w' ⟨rfl,hu⟩;have HU:=aa hu;clear hu;go_wp2;go_ret2;exact⟨rfl,HU.out⟩
theorem Pc(l:List UInt8):D2 l=St.ks St.cA l 0 0 [] [] [] 0:=by
 unfold D2 St.ks;exact(St.qq (λl k t n h=>by have:=(St.jY h).1;omega) _ _ _ _ _ _ _).symm
theorem Pd(l:List UInt8):D3 l=St.ks St.ch l 0 0 [] [] [] 0:=by
 unfold D3 St.ks;refine(St.qq (λl k t n h=>?_) _ _ _ _ _ _ _).symm
 match l,h with
 | c :: r,h=>rcases St.mu h with⟨h,_⟩|⟨h,_⟩<;>omega
theorem Aj{fmt:Int}(h:fmt=1\/fmt=2\/fmt=3)(l:List UInt8):jf fmt l=St.ks (St.P1 fmt) l 0 0 [] [] [] 0:=by
 rcases h with rfl|rfl|rfl
 ·rfl
 ·exact Pc l
 exact Pd l
theorem vp{fmt:Int}(h:fmt=1\/fmt=2\/fmt=3)(d:List UInt8)(he:(jf fmt d).2.2.2=0):St.uX d.length (jf fmt d):=by
 rw[Aj h]at he |-;unfold St.ks at he |-;exact St.td (St.Ly h).ok d.length d 0 0 [] [] [] 0 (by constructor) (by simp) rfl (by simp) (by simp) (by omega) (by omega) (by simp[aP]) he
theorem RY(fmt:Int)(w:World)(h:fmt=1\/fmt=2\/fmt=3)(hL:Mk.ko w):lR w fmt (jf fmt) (lM fmt):=by
 rcases h with rfl|rfl|rfl
 ·exact NE w hL
 ·exact⟨.inr (.inl rfl),λd w' hw hd=>(T9 w).2 d w' hw hd,λd w' _ hd=>D5 d w' hd,λd w' _ hd=>IY d w' hd,λA n c f w' _ hn hnc hc h hl ht=>Ee A n c f w' hn hnc hc h hl ht,λd h=>vp (.inr (.inl rfl)) d h⟩
 exact⟨.inr (.inr rfl),λd w' hw hd=>(Ua w hL.1).2 d w' hw hd,λd w' _ hd=>D6 d w' hd,λd w' _ hd=>IZ d w' hd,λA n c f w' _ hn hnc hc h hl ht=>Ef A n c f w' hn hnc hc h hl ht,λd h=>vp (.inr (.inr rfl)) d h⟩
namespace St
theorem DX{b:List It}{x:It}(h:bo b x=0)(h1:x.1≠1):x.2.1.length<=64:=by
 unfold bo at h;rw[if_neg h1]at h
 split at h
 ·split at h
  ·rename_i hn;have:=(Bv hn.1).1;omega
  cases h
 split at h
 ·split at h
  ·rename_i hn
   have:=hn.1
   unfold a7 at this;simp only[Bool.and_eq_true,decide_eq_true_eq]at this;exact this.1
  cases h
 split at h
 ·split at h
  ·rename_i hn;have:=(Bv hn.1).1;omega
  cases h
 cases h
theorem xY:∀(f b:List It),dK b f=0->∀x∈f,x.1≠1->x.2.1.length<=64
 | y :: f,b,h,x,hx,h1=>by
  rw[dK]at h
  split at h
  ·rename_i hc;exact absurd h hc
  rename_i hc
  rcases List.mem_cons.1 hx with rfl|hx
  ·exact DX (by simpa using hc) h1
  exact xY f _ h x hx h1
theorem CY(fmt:Int):∀f:List It,(∀x∈f,x.1≠1->x.2.1.length<=64)->(f.flatMap (cF fmt)).length<=5*aR f+67*f.length
 | [],_=>by simp
 | x :: f,h=>by
  have ih:=CY fmt f λy hy=>h y (by simp[hy])
  rw[List.flatMap_cons,List.length_append,List.length_cons];have e:aR (x :: f)=bG x+aR f:=by simp[aR]
  have hb:∀t:List UInt8,(t.flatMap (bZ fmt)).length<=5*t.length:=λt=>by
   induction t with
   | nil=>simp
   | cons c t ih=>rw[List.flatMap_cons,List.length_append,List.length_cons];have:=(nX fmt c).2;omega
  have hx:(cF fmt x).length<=5*bG x+67:=by
   unfold cF bG
   split
   ·have:=hb x.2.1;omega
   rename_i h1
   have:=h x (by simp) h1
   repeat' split
   all_goals simp
   all_goals omega
  omega
theorem xP(fmt:Int)(f:List It):(bj fmt f).1.length<=40000:=by
 unfold bj
 split
 ·simp
 split
 ·simp
 rename_i h _
 have hv:bV f=0:=by simpa using h
 unfold bV at hv
 split at hv
 ·cases hv
 rename_i hl
 have:=CY fmt f (xY f [] hv)
 simp only;omega
theorem ui{E:List UInt8->El}:∀(fuel:Nat) (l:List UInt8) (a d:Nat) (f:List It) (cuts:List Nat) (op:List It) (c:Nat),(dv E fuel l a d f cuts op c).2.2.2≠0->(dv E fuel l a d f cuts op c).1=[]
 | 0,l,a,d,f,cuts,op,c,h=>by
  rw[dv]at h |-;unfold la at h |-
  split
  ·rename_i ho;rw[if_pos ho]at h;exact absurd rfl h
  rfl
 | fuel+1,l,a,d,f,cuts,op,c,h=>by
  rw[dv]at h |-
  split
  ·rename_i h0
   rw[if_pos h0]at h;unfold la at h |-
   split
   ·rename_i ho;rw[if_pos ho]at h;exact absurd rfl h
   rfl
  rename_i h0
  rw[if_neg h0]at h
  split
  ·rfl
  rename_i k t n hq
  rw[hq]at h;simp only at h
  split
  ·rename_i hk
   rw[if_pos hk]at h;exact ui fuel _ _ _ _ _ _ _ h
  rename_i hk
  rw[if_neg hk]at h
  split
  ·rfl
  rename_i i eG c' hs
  rw[hs]at h;simp only at h
  split
  ·rfl
  rename_i hf
  rw[if_neg hf]at h;exact ui fuel _ _ _ _ _ _ _ h
end St
theorem IK{fmt:Int}(hk:fmt=1\/fmt=2\/fmt=3)(ps:List St.Pt)(k:Int):(CD fmt ps k).1.length<=512/\aP (CD fmt ps k).1<=(St.bp ps).length:=by
 unfold CD;rw[if_pos hk]
 by_cases hc:(St.bL (jf fmt) ps k).2.2.2=0
 ·obtain⟨j,hj,rfl,_,j6,_⟩:=St.ta hc;rw[j6]at hc |-;have hok:=vp hk _ hc;have:=pZ ps j hj
  exact⟨hok.len,Nat.le_trans hok.aP this⟩
 have:(St.bL (jf fmt) ps k).1=[]:=by
  unfold St.bL at hc |-
  split
  ·rename_i hu
   rw[if_pos hu,Aj hk]at hc;rw[Aj hk];exact St.ui _ _ _ _ _ _ _ _ hc
  rfl
 rw[this];simp[aP]
theorem rZ(fmt:Int)(hk:fmt=1\/fmt=2\/fmt=3)(A B C:Option Addr)(n c m d m2 e0:Nat)(ps:List St.Pt)(k:Int)(rs:List (Int × Int))(ts:List (List St.It))(w:World)(hL:Mk.ko w)(hn:ps.length=n)(hnc:n<=c)(cN:c<=9223372036854775807)(hm:rs.length=m)(hm2:ts.length=m2)(h:aY w A ps)(hB:dL w B rs)(hC:fS w C ts)(hl:n<=1000000)(hr:(St.bp ps).length<=1000000)(fj:m<=20)
  (hts:∀t∈ts,t.length<=1100/\aP t<=20000000):Calls Tryz.prog 16 #[.agg #[VD .i64 fmt,VF A n c],VD .i64 k,VF B m d,VF C m2 e0] w (dw (St.eH (jf fmt) (lM fmt) (St.bj fmt) fmt ps k rs ts) w):=
 r5 A B C n c m d m2 e0 ps k rs ts w (RY fmt w hk hL) hn hnc cN hm hm2 h hB hC hl hr fj hts (λt _=>by have:=St.xP fmt t;omega)
