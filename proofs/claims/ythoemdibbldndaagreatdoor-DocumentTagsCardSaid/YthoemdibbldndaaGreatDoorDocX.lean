/- The functions of formats 2 and 3 as the document's package calls them, and its Replace at. -/
import Derived.Test.YthoemdibbldndaaGreatDoorDcF
import Derived.Test.YthoemdibbldndaaGreatDoorEncXS
import Derived.Test.YthoemdibbldndaaGreatDoorRpp
set_option linter.all false
set_option maxHeartbeats 0
open Go.Value renaming int->UM,string->UN,slice->UO,tuple->UR
namespace Go.Proofs.YthoemdibbldndaaGreatDoor
open Go.RowKit
theorem JL(d:ByteArray)(w:World)(hd:d.size<=1000000000):Calls Tryz.prog 49 #[UM .i64 2,UN d] w (Mk.eM (D2 d.1.1) w):=by
 have H:=aa (Ja d w (by omega));have hR:iI d=D2 d.1.1:=by unfold iI D2;rw[St.aC]
 rw[hR]at H;generalize D2 d.1.1=R at *;obtain⟨f,cu,pl,er⟩:=R;clear hR;go_enter Tryz.func49,Tryz.ntmps49;go_wp2_with fail;refine H.out.mono ?_;rintro e w' ⟨A,c,rfl,hP,h1,h2,hu⟩;have HE:=aa (show Mk.eM (f,cu,pl,er) w (.returned (UR #[UO A cu.length c,UM .i64 er])) w' from⟨A,c,rfl,hP,h1,h2,hu⟩);clear hP h1 h2 hu;go_wp2;go_ret2;exact HE.out
theorem JM(d:ByteArray)(w:World)(hd:d.size<=1000000000):Calls Tryz.prog 49 #[UM .i64 3,UN d] w (Mk.eM (D3 d.1.1) w):=by
 have H:=aa (Sh.IJ d w (by omega));have hR:Sh.gj d=D3 d.1.1:=by unfold Sh.gj D3;rw[St.aC]
 rw[hR]at H;generalize D3 d.1.1=R at *;obtain⟨f,cu,pl,er⟩:=R;clear hR;go_enter Tryz.func49,Tryz.ntmps49;go_wp2_with fail;refine H.out.mono ?_;rintro e w' ⟨A,c,rfl,hP,h1,h2,hu⟩;have HE:=aa (show Mk.eM (f,cu,pl,er) w (.returned (UR #[UO A cu.length c,UM .i64 er])) w' from⟨A,c,rfl,hP,h1,h2,hu⟩);clear hP h1 h2 hu;go_wp2;go_ret2;exact HE.out
theorem EQ(A:Option Addr)(n c:Nat)(f:List St.It)(w:World)(hn:f.length=n)(hnc:n<=c)(dz:c<=9223372036854775807)(h:aO w A f)(hl:n<=1000000000)(ht:bc f<=1000000000000) :
  Calls Tryz.prog 50 #[UM .i64 2,UO A n c] w λe w'=>e=.returned (UR #[UN ⟨(St.bj 2 f).1.toArray⟩,UM .i64 (St.bj 2 f).2])/\ac w w':=by
 have H:=aa (CY A n c f w hn hnc dz h hl ht);generalize St.bj 2 f=R at *;obtain⟨s,er⟩:=R;clear h hn ht;go_enter Tryz.func50,Tryz.ntmps50;go_wp2_with fail;refine H.out.mono ?_;rintro e w' ⟨rfl,hu⟩;have HU:=aa hu;clear hu;go_wp2;go_ret2;exact⟨rfl,HU.out⟩
theorem ER(A:Option Addr)(n c:Nat)(f:List St.It)(w:World)(hn:f.length=n)(hnc:n<=c)(dz:c<=9223372036854775807)(h:aO w A f)(hl:n<=1000000000)(ht:bc f<=1000000000000) :
  Calls Tryz.prog 50 #[UM .i64 3,UO A n c] w λe w'=>e=.returned (UR #[UN ⟨(St.bj 3 f).1.toArray⟩,UM .i64 (St.bj 3 f).2])/\ac w w':=by
 have H:=aa (CR A n c f w hn hnc dz h hl ht);generalize St.bj 3 f=R at *;obtain⟨s,er⟩:=R;clear h hn ht;go_enter Tryz.func50,Tryz.ntmps50;go_wp2_with fail;refine H.out.mono ?_;rintro e w' ⟨rfl,hu⟩;have HU:=aa hu;clear hu;go_wp2;go_ret2;exact⟨rfl,HU.out⟩
theorem Pf(l:List UInt8):D2 l=St.eD St.bX l 0 0 [] [] [] 0:=by
 unfold D2 St.eD;exact(St.qK (λl k t n h=>by have:=(St.iJ h).1;omega) _ _ _ _ _ _ _).symm
theorem Pg(l:List UInt8):D3 l=St.eD St.ci l 0 0 [] [] [] 0:=by
 unfold D3 St.eD;refine(St.qK (λl k t n h=>?_) _ _ _ _ _ _ _).symm
 match l,h with
 | c :: r,h=>rcases St.mG h with⟨h,_⟩|⟨h,_⟩<;>omega
theorem sg{fmt:Int}(h:fmt=1\/fmt=2\/fmt=3)(l:List UInt8):kj fmt l=St.eD (St.F8 fmt) l 0 0 [] [] [] 0:=by
 rcases h with rfl|rfl|rfl
 ·rfl
 ·exact Pf l
 exact Pg l
theorem AA{fmt:Int}(h:fmt=1\/fmt=2\/fmt=3)(d:List UInt8)(he:(kj fmt d).2.2.2=0):St.uW d.length (kj fmt d):=by
 rw[sg h]at he |-;unfold St.eD at he |-;exact St.tr (St.Dl h).ok d.length d 0 0 [] [] [] 0 (by constructor) (by simp) rfl (by simp) (by simp) (by omega) (by omega) (by simp[bc]) he
theorem Ry(fmt:Int)(w:World)(h:fmt=1\/fmt=2\/fmt=3)(hL:Mk.kD w):l7 w fmt (kj fmt) (pZ fmt):=by
 rcases h with rfl|rfl|rfl
 ·exact NQ w hL
 ·exact⟨.inr (.inl rfl),λd w' hw hd=>(TB w).2 d w' hw hd,λd w' _ hd=>EF d w' hd,λd w' _ hd=>JL d w' hd,λA n c f w' _ hn hnc hc h hl ht=>EQ A n c f w' hn hnc hc h hl ht,λd h=>AA (.inr (.inl rfl)) d h⟩
 exact⟨.inr (.inr rfl),λd w' hw hd=>(TC w hL.1).2 d w' hw hd,λd w' _ hd=>EG d w' hd,λd w' _ hd=>JM d w' hd,λA n c f w' _ hn hnc hc h hl ht=>ER A n c f w' hn hnc hc h hl ht,λd h=>AA (.inr (.inr rfl)) d h⟩
namespace St
theorem EC{b:List It}{x:It}(h:bf b x=0)(h1:x.1≠1):x.2.1.length<=64:=by
 unfold bf at h;rw[if_neg h1]at h
 split at h
 ·split at h
  ·rename_i hn;have:=(q6 hn.1).1;omega
  cases h
 split at h
 ·split at h
  ·rename_i hn
   have:=hn.1
   unfold aI at this;simp only[Bool.and_eq_true,decide_eq_true_eq]at this;exact this.1
  cases h
 split at h
 ·split at h
  ·rename_i hn;have:=(q6 hn.1).1;omega
  cases h
 cases h
theorem yc:∀(f b:List It),cI b f=0->∀x∈f,x.1≠1->x.2.1.length<=64
 | y :: f,b,h,x,hx,h1=>by
  rw[cI]at h
  split at h
  ·rename_i hc;exact absurd h hc
  rename_i hc
  rcases List.mem_cons.1 hx with rfl|hx
  ·exact EC (by simpa using hc) h1
  exact yc f _ h x hx h1
theorem Dj(fmt:Int):∀f:List It,(∀x∈f,x.1≠1->x.2.1.length<=64)->(f.flatMap (aH fmt)).length<=5*ay f+67*f.length
 | [],_=>by simp
 | x :: f,h=>by
  have ih:=Dj fmt f λy hy=>h y (by simp[hy])
  rw[List.flatMap_cons,List.length_append,List.length_cons];have e:ay (x :: f)=a7 x+ay f:=by simp[ay]
  have hb:∀t:List UInt8,(t.flatMap (bh fmt)).length<=5*t.length:=λt=>by
   induction t with
   | nil=>simp
   | cons c t ih=>rw[List.flatMap_cons,List.length_append,List.length_cons];have:=(kJ fmt c).2;omega
  have hx:(aH fmt x).length<=5*a7 x+67:=by
   unfold aH a7
   split
   ·have:=hb x.2.1;omega
   rename_i h1
   have:=h x (by simp) h1
   repeat' split
   all_goals simp
   all_goals omega
  omega
theorem GO(fmt:Int)(f:List It):(bj fmt f).1.length<=40000:=by
 unfold bj
 split
 ·simp
 split
 ·simp
 rename_i h _
 have hv:bJ f=0:=by simpa using h
 unfold bJ at hv
 split at hv
 ·cases hv
 rename_i hl
 have:=Dj fmt f (yc f [] hv)
 simp only;omega
theorem ug{E:List UInt8->El}:∀(fuel:Nat) (l:List UInt8) (a d:Nat) (f:List It) (cuts:List Nat) (op:List It) (c:Nat),(dl E fuel l a d f cuts op c).2.2.2≠0->(dl E fuel l a d f cuts op c).1=[]
 | 0,l,a,d,f,cuts,op,c,h=>by
  rw[dl]at h |-;unfold gD at h |-
  split
  ·rename_i ho;rw[if_pos ho]at h;exact absurd rfl h
  rfl
 | fuel+1,l,a,d,f,cuts,op,c,h=>by
  rw[dl]at h |-
  split
  ·rename_i h0
   rw[if_pos h0]at h;unfold gD at h |-
   split
   ·rename_i ho;rw[if_pos ho]at h;exact absurd rfl h
   rfl
  rename_i h0
  rw[if_neg h0]at h
  split
  ·rfl
  rename_i k t n hq
  rw[hq]at h;simp only at h
  split
  ·rename_i hk
   rw[if_pos hk]at h;exact ug fuel _ _ _ _ _ _ _ h
  rename_i hk
  rw[if_neg hk]at h
  split
  ·rfl
  rename_i i b7 c' hs
  rw[hs]at h;simp only at h
  split
  ·rfl
  rename_i hf
  rw[if_neg hf]at h;exact ug fuel _ _ _ _ _ _ _ h
end St
theorem Js{fmt:Int}(hk:fmt=1\/fmt=2\/fmt=3)(ps:List St.Pt)(k:Int):(CD fmt ps k).1.length<=512/\bc (CD fmt ps k).1<=(St.b6 ps).length:=by
 unfold CD;rw[if_pos hk]
 by_cases hc:(St.bL (kj fmt) ps k).2.2.2=0
 ·obtain⟨j,hj,rfl,_,jK,_⟩:=St.wL hc;rw[jK]at hc |-;have hok:=AA hk _ hc;have:=sO ps j hj
  exact⟨hok.len,Nat.le_trans hok.bc this⟩
 have:(St.bL (kj fmt) ps k).1=[]:=by
  unfold St.bL at hc |-
  split
  ·rename_i hu
   rw[if_pos hu,sg hk]at hc;rw[sg hk];exact St.ug _ _ _ _ _ _ _ _ hc
  rfl
 rw[this];simp[bc]
theorem sh(fmt:Int)(hk:fmt=1\/fmt=2\/fmt=3)(A B C:Option Addr)(n c m d m2 e0:Nat)(ps:List St.Pt)(k:Int)(rs:List (Int × Int))(ts:List (List St.It))(w:World)(hL:Mk.kD w)(hn:ps.length=n)(hnc:n<=c)(dz:c<=9223372036854775807)(hm:rs.length=m)(hm2:ts.length=m2)(h:bn w A ps)(hB:fB w B rs)(hC:iy w C ts)(hl:n<=1000000)(hr:(St.b6 ps).length<=1000000)(fj:m<=20)
  (hts:∀t∈ts,t.length<=1100/\bc t<=20000000):Calls Tryz.prog 16 #[.agg #[UM .i64 fmt,UO A n c],UM .i64 k,UO B m d,UO C m2 e0] w (gG (St.fh (kj fmt) (pZ fmt) (St.bj fmt) fmt ps k rs ts) w):=
 si A B C n c m d m2 e0 ps k rs ts w (Ry fmt w hk hL) hn hnc dz hm hm2 h hB hC hl hr fj hts (λt _=>by have:=St.GO fmt t;omega)
