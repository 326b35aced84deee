/- Reading a unit's content: the program's and the reference's Content, for any format. -/
import Derived.Test.YthoemdibbldndaaGreatDoorGJ
set_option linter.all false
set_option maxHeartbeats 0
set_option maxRecDepth 20000
open Go.Value renaming int->Yp,string->Yq,slice->Yr,tuple->Yu
namespace Go.Proofs.YthoemdibbldndaaGreatDoor
open Go.RowKit
section
def D2(l:List UInt8):St.gy:=St.dec St.ch l.length l 0 0 [] []
def D3(l:List UInt8):St.gy:=St.dec St.cx l.length l 0 0 [] []
theorem xF(d:ByteArray)(w:World)(hd:d.size<=1000000000):Calls Tryz.prog 51 #[Yp .i64 2,Yq d] w (cY (D2 d.1.1) w):=by
 have H:=aa (vK d w (by omega));have hR:jc d=D2 d.1.1:=by unfold jc D2;rw[St.aB]
 rw[hR]at H;generalize D2 d.1.1=R at *;obtain⟨f,cu,pl,er⟩:=R;clear hR;go_enter Tryz.func51,Tryz.ntmps51;go_wp2_with fail;refine H.out.mono ?_;rintro e w' ⟨A,c,rfl,hP,h1,h2,hu⟩;have HE:=aa (show cY (f,cu,pl,er) w (.returned (Yu #[Yr A f.length c,Yp .i64 er])) w' from⟨A,c,rfl,hP,h1,h2,hu⟩);clear hP h1 h2 hu;go_wp2;go_ret2;exact HE.out
theorem xG(d:ByteArray)(w:World)(hd:d.size<=1000000000):Calls Tryz.prog 51 #[Yp .i64 3,Yq d] w (cY (D3 d.1.1) w):=by
 have H:=aa (Sh.vG d w (by omega));have hR:Sh.gC d=D3 d.1.1:=by unfold Sh.gC D3;rw[St.aB]
 rw[hR]at H;generalize D3 d.1.1=R at *;obtain⟨f,cu,pl,er⟩:=R;clear hR;go_enter Tryz.func51,Tryz.ntmps51;go_wp2_with fail;refine H.out.mono ?_;rintro e w' ⟨A,c,rfl,hP,h1,h2,hu⟩;have HE:=aa (show cY (f,cu,pl,er) w (.returned (Yu #[Yr A f.length c,Yp .i64 er])) w' from⟨A,c,rfl,hP,h1,h2,hu⟩);clear hP h1 h2 hu;go_wp2;go_ret2;exact HE.out
def jN(fmt:Int):List UInt8->St.gy:=if fmt=1 then St.D1 else if fmt=2 then D2 else D3
theorem QR(fmt:Int)(h:fmt=1\/fmt=2\/fmt=3)(d:ByteArray)(w:World)(hd:d.size<=1000000000):Calls Tryz.prog 51 #[Yp .i64 fmt,Yq d] w (cY (jN fmt d.1.1) w):=by
 rcases h with rfl|rfl|rfl
 ·exact xM d w hd
 ·exact xF d w hd
 exact xG d w hd
theorem PJ(fmt:Int)(h:fmt=1\/fmt=2\/fmt=3)(d:ByteArray)(w:World)(hd:d.size<=1000000000):Calls Tryz.prog 63 #[Yp .i64 fmt,Yq d] w (fz (jN fmt d.1.1) w):=by
 rcases h with rfl|rfl|rfl
 ·have:=uD 1 St.b7 zP wC d w (by omega)
  rw[<-St.aB]at this;exact this
 ·have:=lj 2 St.ch EE uH d w (by omega)
  rw[<-St.aB]at this;exact this
 have:=lj 3 St.cx ES ET d w (by omega)
 rw[<-St.aB]at this;exact this
def CD(fmt:Int)(ps:List St.Pt)(k:Int):St.gy:=if fmt=1\/fmt=2\/fmt=3 then St.bQ (jN fmt) ps k else([],[],0,1)
theorem cY.bad{R:St.gy}{x:Int}{w w':World}(h:R=([],[],0,x))(u:ac w w'):cY R w (.returned (Yu #[Yr none 0 0,Yp .i64 x])) w':=by
 subst h;exact⟨none,0,rfl,λh=>absurd h (by simp),by simp,by omega,u⟩
theorem C8(fmt:Int)(A:Option Addr)(n c:Nat)(ps:List St.Pt)(k:Int)(w:World)(hn:ps.length=n)(h:a8 w A ps)(hl:n<=9223372036854775807)(hr:(St.b8 ps).length<=1000000000) :
  Calls Tryz.prog 26 #[.agg #[Yp .i64 fmt,Yr A n c],Yp .i64 k] w (cY (CD fmt ps k) w):=by
 by_cases hk:fmt=1\/fmt=2\/fmt=3
 ·unfold CD;rw[if_pos hk];exact C7 A n c ps k w hk (λd W _ hd=>QR fmt hk d W hd) hn h hl hr
 have hm:=aa (show CD fmt ps k=([],[],0,1)by unfold CD;rw[if_neg hk]);have HK:=aa (λW=>Hu fmt W hk);clear hk h;go_enter Tryz.func26,Tryz.ntmps26;go_wp2_with fail;refine(HK.out _).mono ?_;rintro e w2 ⟨rfl,rfl⟩;go_wp2;go_ret2;exact cY.bad hm.out uZ
theorem uC(fmt:Int)(A:Option Addr)(n c:Nat)(ps:List St.Pt)(k:Int)(w:World)(hn:ps.length=n)(h:a8 w A ps)(hl:n<=9223372036854775807)(hr:(St.b8 ps).length<=1000000000) :
  Calls Tryz.prog 27 #[.agg #[Yp .i64 fmt,Yr A n c],Yp .i64 k] w (cY (CD fmt ps k) w):=by
 by_cases hk:fmt=1\/fmt=2\/fmt=3
 rotate_left 1
 ·have hm:=aa (show CD fmt ps k=([],[],0,1)by unfold CD;rw[if_neg hk]);have HK:=aa (λW=>Fv fmt W hk);clear hk h;go_enter Tryz.func27,Tryz.ntmps27;go_wp2_with fail;refine(HK.out _).mono ?_;rintro e w2 ⟨rfl,rfl⟩;go_wp2;go_ret2;exact cY.bad hm.out uZ
 have Rt:CD fmt ps k=St.bQ (jN fmt) ps k:=by unfold CD;rw[if_pos hk]
 rw[Rt];clear Rt;have HK:=aa (λW=>vF fmt W hk);have HD:=aa (λd W hd=>PJ fmt hk d W hd);generalize jN fmt=D at *;have H:=aa h;have HN:=aa hn;have HR:=aa hr;clear h hn hr hk
 by_cases k0:k<0
 ·have hm:=aa (show St.bQ D ps k=([],[],0,6)from pX (by unfold St.gx;rw[if_neg (by omega)]));go_enter Tryz.func27,Tryz.ntmps27;go_wp2_with fail;refine(HK.out _).mono ?_;rintro e w2 ⟨rfl,rfl⟩;go_wp2;go_ret2;exact cY.lF hm.out uZ
 obtain⟨j,rfl⟩:∃j:Nat,k=j:=⟨k.toNat,by omega⟩
 by_cases kn:j<n
 ·have hj:j<ps.length:=by rw[HN.out];exact kn
  obtain⟨b,off,rfl,hb,hc⟩:=H.out (by omega);obtain⟨c0,c1,c2⟩:=hc j hj;have hpt:St.gx ps (j:Int)=ps[j]:=by unfold St.gx;rw[if_pos (by omega),Int.toNat_natCast,List.getElem?_eq_getElem hj];rfl
  have hrl:=uB ps j hj;have hU:St.bQ D ps (j:Int)=if ps[j].1=true then D ps[j].2.2 else([],[],0,6):=by unfold St.bQ;rw[hpt]
  generalize ps[j]=x at c0 c1 c2 hrl hU;obtain⟨xu,xk,xr⟩:=x;simp only at c0 c1 c2 hrl hU;haveI:af b w:=af.of hb;have hR:=HR.out;have z1:¬(n:Int)<=(j:Int):=by omega
  have z2:(j:Int)<(n:Int):=by omega
  have z3:¬(j:Int)<0:=by omega
  have qS:=aa hU;clear hc hj hpt k0 hU;cases xu
  ·have hm:=aa (show St.bQ D ps (j:Int)=([],[],0,6)by rw[qS.out];rfl);go_enter Tryz.func27,Tryz.ntmps27;go_wp2_with fail;refine(HK.out _).mono ?_;rintro e w2 ⟨rfl,rfl⟩;go_wp2;go_ret2;exact cY.lF hm.out uZ
  have hm:=aa (show St.bQ D ps (j:Int)=D xr by rw[qS.out];rfl);have eI:=aa (λW=>HD.out ⟨xr.toArray⟩ W (by show xr.toArray.size<=_;simp;omega));go_enter Tryz.func27,Tryz.ntmps27;go_wp2_with fail;refine(HK.out _).mono ?_;rintro e w2 ⟨rfl,rfl⟩;go_wp2_with fail;go_region_law (refine eR rfl 63 #[Yp .i64 fmt,Yq ⟨xr.toArray⟩] _ (eI.out _) ?_ ?_;(· go_simp;done);rintro e w3 ⟨v1,v2,rfl,hO1,hO2,hu⟩;refine⟨_,rfl,?_⟩)
  all_goals
   obtain⟨A3,c3,rfl,h1,h2⟩:=aI hO1;have HE:=aa (show cY (D xr) w (.returned (Yu #[Yr A3 (D xr).1.length c3,Yp .i64 (D xr).2.2.2])) w3 from⟨A3,c3,rfl,a7 hO1 rfl,h1,by unfold maxLen at h2;omega,ac.trans (uZ) hu⟩);clear hO1 hO2 h1 h2 hu;go_wp2;go_ret2;rw[hm.out];exact HE.out
 have hm:=aa (show St.bQ D ps (j:Int)=([],[],0,6)from pX (by
  unfold St.gx
  rw[if_pos (by omega),Int.toNat_natCast,List.getElem?_eq_none (by rw[HN.out];omega)];rfl))
 have z1:(n:Int)<=(j:Int):=by omega
 have z3:¬(j:Int)<0:=by omega
 go_enter Tryz.func27,Tryz.ntmps27;go_wp2_with fail;refine(HK.out _).mono ?_;rintro e w2 ⟨rfl,rfl⟩;go_wp2;go_ret2;exact cY.lF hm.out uZ
end
section
theorem Ec{dE:List UInt8->Nat × Int}{dig:Nat->List UInt8}{d:List UInt8}:∀(fuel a r:Nat) (s s':St.PS),St.eA dE dig d fuel a r s=.ok s'->s'.1.length<=s.1.length+2*fuel
 | 0,a,r,s,s',h=>by rw[St.eA]at h;cases h;omega
 | fuel+1,a,r,s,s',h=>by
  rw[St.eA]at h
  split at h
  ·cases h;omega
  split at h
  ·cases h
  split at h
  ·have:=Ec fuel _ _ _ _ h;omega
  simp only[]at h
  split at h
  ·split at h<;>cases h
  split at h
  ·cases h
  have:=Ec fuel _ _ _ _ h
  simp[St.bk]at this;omega
theorem jd{dE:List UInt8->Nat × Int}{d:List UInt8}:∀(fuel a:Nat) (s s':St.PS),St.dc dE d fuel a s=.ok s'->s'.1.length<=s.1.length+2*fuel
 | 0,a,s,s',h=>by rw[St.dc]at h;cases h;omega
 | fuel+1,a,s,s',h=>by
  rw[St.dc]at h
  split at h
  ·cases h;omega
  split at h
  ·have:=jd fuel _ _ _ h;omega
  simp only[]at h
  split at h
  ·cases h
  split at h
  ·cases h
  split at h
  ·cases h
  have:=jd fuel _ _ _ h
  simp[St.bk]at this;omega
theorem GJ{dE:List UInt8->Nat × Int}{d key:List UInt8}{W C:Nat}:∀(fuel a n:Nat) (s:St.PS) (e m:Nat) (s':St.PS),St.dw dE d W C key fuel a n s=.ok (e,m,s')->s'.1.length<=s.1.length+(if n<=C then 2 else 0)
 | 0,a,n,s,e,m,s',h=>by rw[St.dw]at h;cases h
 | fuel+1,a,n,s,e,m,s',h=>by
  rw[St.dw]at h
  split at h
  ·cases h
  split at h
  ·cases h
  split at h
  ·cases h
  simp only[]at h
  have hl:∀k:Nat,(if n=C then St.bk d s (a+1) (a+k-1) key else s).1.length+(if n+1<=C then 2 else 0)<=s.1.length+(if n<=C then 2 else 0):=λk=>by
   split
   ·rename_i hn
    rw[if_neg (by omega),if_pos (by omega)];simp[St.bk]
   split
   ·rw[if_pos (by omega)];omega
   omega
  split at h
  ·cases h;exact Nat.le_trans (Nat.le_add_right _ _) (hl _)
  split at h
  ·cases h;exact Nat.le_trans (Nat.le_add_right _ _) (hl _)
  exact Nat.le_trans (GJ fuel _ _ _ _ _ _ h) (hl _)
theorem Ey{dE:List UInt8->Nat × Int}{dig:Nat->List UInt8}{d:List UInt8}{W C:Nat}:∀(fuel a r:Nat) (s s':St.PS),St.cF dE dig d W C fuel a r s=.ok s'->s'.1.length<=s.1.length+2*fuel
 | 0,a,r,s,s',h=>by rw[St.cF]at h;cases h;omega
 | fuel+1,a,r,s,s',h=>by
  rw[St.cF]at h
  split at h
  ·cases h;omega
  split at h
  ·cases h
  rename_i hr
  split at h
  ·cases h
  have h1:=GJ _ _ _ _ _ _ _ hr;have h2:=Ey fuel _ _ _ _ h
  split at h1<;>omega
theorem wZ.len{fmt:Int}{ps:List St.Pt}(h:wZ fmt ps):ps.length<=1000000:=by
 obtain⟨hk,d,pl,_,hs⟩:=h
 have big:∀x:Nat × Int,(([]:List St.Pt),x.1,x.2)=(ps,pl,0)->ps.length<=1000000:=λx e=>by
  have:=congrArg (·.1) e;simp at this;subst this;simp
 have small:∀s:St.PS,s.1.length<=900000->(St.cG d s,0,(0:Int))=(ps,pl,0)->ps.length<=1000000:=λs hl e=>by
  have:=congrArg (·.1) e;simp at this;subst this;simp[St.cG];omega
 rcases hk with rfl|rfl|rfl
 ·have h0:St.ix Mk.dE Lib.decDigits d=(ps,pl,0):=hs;unfold St.ix at h0
  split at h0
  ·exact big (0,3) h0
  split at h0
  ·exact big (_,_) h0
  rename_i hlen _ s hr
  exact small s (by have:=Ec _ _ _ _ _ hr;simp at this;omega) h0
 ·have h0:St.lk dE d=(ps,pl,0):=hs;unfold St.lk at h0
  split at h0
  ·exact big (0,3) h0
  split at h0
  ·exact big (_,_) h0
  rename_i hlen _ s hr
  exact small s (by have:=jd _ _ _ _ hr;simp at this;omega) h0
 have h0:St.eM Sh.dE Lib.decDigits d=(ps,pl,0):=hs;unfold St.eM at h0
 split at h0
 ·exact big (0,3) h0
 split at h0
 ·exact big (_,_) h0
 split at h0
 ·exact big (0,6) h0
 split at h0
 ·exact big (0,5) h0
 split at h0
 ·exact big (_,_) h0
 rename_i hlen _ _ _ _ _ _ _ _ s hr
 exact small s (by have:=Ey _ _ _ _ _ hr;simp at this;omega) h0
end
