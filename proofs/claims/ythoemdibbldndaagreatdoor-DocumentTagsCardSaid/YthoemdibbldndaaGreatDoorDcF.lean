/- Reading a unit's content: the program's and the reference's Content, for any format. -/
import Derived.Test.YthoemdibbldndaaGreatDoorGJ
set_option linter.all false
set_option maxHeartbeats 0
set_option maxRecDepth 20000
open Go.Value renaming int->UM,string->UN,slice->UO,tuple->UR
namespace Go.Proofs.YthoemdibbldndaaGreatDoor
open Go.RowKit
section
def D2(l:List UInt8):St.gg:=St.dec St.bX l.length l 0 0 [] []
def D3(l:List UInt8):St.gg:=St.dec St.ci l.length l 0 0 [] []
theorem EF(d:ByteArray)(w:World)(hd:d.size<=1000000000):Calls Tryz.prog 51 #[UM .i64 2,UN d] w (dp (D2 d.1.1) w):=by
 have H:=aa (tV d w (by omega));have hR:iI d=D2 d.1.1:=by unfold iI D2;rw[St.aC]
 rw[hR]at H;generalize D2 d.1.1=R at *;obtain⟨f,cu,pl,er⟩:=R;clear hR;go_enter Tryz.func51,Tryz.ntmps51;go_wp2_with fail;refine H.out.mono ?_;rintro e w' ⟨A,c,rfl,hP,h1,h2,hu⟩;have HE:=aa (show dp (f,cu,pl,er) w (.returned (UR #[UO A f.length c,UM .i64 er])) w' from⟨A,c,rfl,hP,h1,h2,hu⟩);clear hP h1 h2 hu;go_wp2;go_ret2;exact HE.out
theorem EG(d:ByteArray)(w:World)(hd:d.size<=1000000000):Calls Tryz.prog 51 #[UM .i64 3,UN d] w (dp (D3 d.1.1) w):=by
 have H:=aa (Sh.tS d w (by omega));have hR:Sh.gj d=D3 d.1.1:=by unfold Sh.gj D3;rw[St.aC]
 rw[hR]at H;generalize D3 d.1.1=R at *;obtain⟨f,cu,pl,er⟩:=R;clear hR;go_enter Tryz.func51,Tryz.ntmps51;go_wp2_with fail;refine H.out.mono ?_;rintro e w' ⟨A,c,rfl,hP,h1,h2,hu⟩;have HE:=aa (show dp (f,cu,pl,er) w (.returned (UR #[UO A f.length c,UM .i64 er])) w' from⟨A,c,rfl,hP,h1,h2,hu⟩);clear hP h1 h2 hu;go_wp2;go_ret2;exact HE.out
def kj(fmt:Int):List UInt8->St.gg:=if fmt=1 then St.D1 else if fmt=2 then D2 else D3
theorem MM(fmt:Int)(h:fmt=1\/fmt=2\/fmt=3)(d:ByteArray)(w:World)(hd:d.size<=1000000000):Calls Tryz.prog 63 #[UM .i64 fmt,UN d] w (dx (kj fmt d.1.1) w):=by
 rcases h with rfl|rfl|rfl
 ·have:=sP 1 St.bS xe uB d w (by omega)
  rw[<-St.aC]at this;exact this
 ·have:=kz 2 St.bX B1 sR d w (by omega)
  rw[<-St.aC]at this;exact this
 have:=kz 3 St.ci Cd Ce d w (by omega)
 rw[<-St.aC]at this;exact this
def CD(fmt:Int)(ps:List St.Pt)(k:Int):St.gg:=if fmt=1\/fmt=2\/fmt=3 then St.bL (kj fmt) ps k else([],[],0,1)
theorem dp.bad{R:St.gg}{x:Int}{w w':World}(h:R=([],[],0,x))(u:ac w w'):dp R w (.returned (UR #[UO none 0 0,UM .i64 x])) w':=by
 subst h;exact⟨none,0,rfl,λh=>absurd h (by simp),by simp,by omega,u⟩
theorem BS(fmt:Int)(A:Option Addr)(n c:Nat)(ps:List St.Pt)(k:Int)(w:World)(hn:ps.length=n)(h:bn w A ps)(hl:n<=9223372036854775807)(hr:(St.b6 ps).length<=1000000000) :
  Calls Tryz.prog 27 #[.agg #[UM .i64 fmt,UO A n c],UM .i64 k] w (dp (CD fmt ps k) w):=by
 by_cases hk:fmt=1\/fmt=2\/fmt=3
 rotate_left 1
 ·have hm:=aa (show CD fmt ps k=([],[],0,1)by unfold CD;rw[if_neg hk]);have HK:=aa (λW=>CO fmt W hk);clear hk h;go_enter Tryz.func27,Tryz.ntmps27;go_wp2_with fail;refine(HK.out _).mono ?_;rintro e w2 ⟨rfl,rfl⟩;go_wp2;go_ret2;exact dp.bad hm.out uZ
 have Od:CD fmt ps k=St.bL (kj fmt) ps k:=by unfold CD;rw[if_pos hk]
 rw[Od];clear Od;have HK:=aa (λW=>tR fmt W hk);have HD:=aa (λd W hd=>MM fmt hk d W hd);generalize kj fmt=D at *;have H:=aa h;have HN:=aa hn;have HR:=aa hr;clear h hn hr hk
 by_cases k0:k<0
 ·have hm:=aa (show St.bL D ps k=([],[],0,6)from oX (by unfold St.fO;rw[if_neg (by omega)]));go_enter Tryz.func27,Tryz.ntmps27;go_wp2_with fail;refine(HK.out _).mono ?_;rintro e w2 ⟨rfl,rfl⟩;go_wp2;go_ret2;exact dp.kT hm.out uZ
 obtain⟨j,rfl⟩:∃j:Nat,k=j:=⟨k.toNat,by omega⟩
 by_cases kn:j<n
 ·have hj:j<ps.length:=by rw[HN.out];exact kn
  obtain⟨b,off,rfl,hb,hc⟩:=H.out (by omega);obtain⟨c0,c1,c2⟩:=hc j hj;have hpt:St.fO ps (j:Int)=ps[j]:=by unfold St.fO;rw[if_pos (by omega),Int.toNat_natCast,List.getElem?_eq_getElem hj];rfl
  have hrl:=sO ps j hj;have jK:St.bL D ps (j:Int)=if ps[j].1=true then D ps[j].2.2 else([],[],0,6):=by unfold St.bL;rw[hpt]
  generalize ps[j]=x at c0 c1 c2 hrl jK;obtain⟨xu,xk,xr⟩:=x;simp only at c0 c1 c2 hrl jK;haveI:af b w:=af.of hb;have hR:=HR.out;have z1:¬(n:Int)<=(j:Int):=by omega
  have z2:(j:Int)<(n:Int):=by omega
  have z3:¬(j:Int)<0:=by omega
  have u0:=aa jK;clear hc hj hpt k0 jK;cases xu
  ·have hm:=aa (show St.bL D ps (j:Int)=([],[],0,6)by rw[u0.out];rfl);go_enter Tryz.func27,Tryz.ntmps27;go_wp2_with fail;refine(HK.out _).mono ?_;rintro e w2 ⟨rfl,rfl⟩;go_wp2;go_ret2;exact dp.kT hm.out uZ
  have hm:=aa (show St.bL D ps (j:Int)=D xr by rw[u0.out];rfl);have ey:=aa (λW=>HD.out ⟨xr.toArray⟩ W (by show xr.toArray.size<=_;simp;omega));go_enter Tryz.func27,Tryz.ntmps27;go_wp2_with fail;refine(HK.out _).mono ?_;rintro e w2 ⟨rfl,rfl⟩;go_wp2_with fail;go_region_law (refine fH rfl 63 #[UM .i64 fmt,UN ⟨xr.toArray⟩] _ (ey.out _) ?_ ?_;(· go_simp;done);rintro e w3 ⟨v1,v2,rfl,hO1,hO2,hu⟩;refine⟨_,rfl,?_⟩)
  all_goals
   obtain⟨A3,c3,rfl,h1,h2⟩:=aL hO1;have HE:=aa (show dp (D xr) w (.returned (UR #[UO A3 (D xr).1.length c3,UM .i64 (D xr).2.2.2])) w3 from⟨A3,c3,rfl,aX hO1 rfl,h1,by unfold maxLen at h2;omega,ac.trans (uZ) hu⟩);clear hO1 hO2 h1 h2 hu;go_wp2;go_ret2;rw[hm.out];exact HE.out
 have hm:=aa (show St.bL D ps (j:Int)=([],[],0,6)from oX (by
  unfold St.fO
  rw[if_pos (by omega),Int.toNat_natCast,List.getElem?_eq_none (by rw[HN.out];omega)];rfl))
 have z1:(n:Int)<=(j:Int):=by omega
 have z3:¬(j:Int)<0:=by omega
 go_enter Tryz.func27,Tryz.ntmps27;go_wp2_with fail;refine(HK.out _).mono ?_;rintro e w2 ⟨rfl,rfl⟩;go_wp2;go_ret2;exact dp.kT hm.out uZ
end
section
theorem Bz{dE:List UInt8->Nat × Int}{dig:Nat->List UInt8}{d:List UInt8}:∀(fuel a r:Nat) (s s':St.PS),St.ej dE dig d fuel a r s=.ok s'->s'.1.length<=s.1.length+2*fuel
 | 0,a,r,s,s',h=>by rw[St.ej]at h;cases h;omega
 | fuel+1,a,r,s,s',h=>by
  rw[St.ej]at h
  split at h
  ·cases h;omega
  split at h
  ·cases h
  split at h
  ·have:=Bz fuel _ _ _ _ h;omega
  simp only[]at h
  split at h
  ·split at h<;>cases h
  split at h
  ·cases h
  have:=Bz fuel _ _ _ _ h
  simp[St.bg]at this;omega
theorem iJ{dE:List UInt8->Nat × Int}{d:List UInt8}:∀(fuel a:Nat) (s s':St.PS),St.cY dE d fuel a s=.ok s'->s'.1.length<=s.1.length+2*fuel
 | 0,a,s,s',h=>by rw[St.cY]at h;cases h;omega
 | fuel+1,a,s,s',h=>by
  rw[St.cY]at h
  split at h
  ·cases h;omega
  split at h
  ·have:=iJ fuel _ _ _ h;omega
  simp only[]at h
  split at h
  ·cases h
  split at h
  ·cases h
  split at h
  ·cases h
  have:=iJ fuel _ _ _ h
  simp[St.bg]at this;omega
theorem DW{dE:List UInt8->Nat × Int}{d key:List UInt8}{W C:Nat}:∀(fuel a n:Nat) (s:St.PS) (e m:Nat) (s':St.PS),St.dm dE d W C key fuel a n s=.ok (e,m,s')->s'.1.length<=s.1.length+(if n<=C then 2 else 0)
 | 0,a,n,s,e,m,s',h=>by rw[St.dm]at h;cases h
 | fuel+1,a,n,s,e,m,s',h=>by
  rw[St.dm]at h
  split at h
  ·cases h
  split at h
  ·cases h
  split at h
  ·cases h
  simp only[]at h
  have hl:∀k:Nat,(if n=C then St.bg d s (a+1) (a+k-1) key else s).1.length+(if n+1<=C then 2 else 0)<=s.1.length+(if n<=C then 2 else 0):=λk=>by
   split
   ·rename_i hn
    rw[if_neg (by omega),if_pos (by omega)];simp[St.bg]
   split
   ·rw[if_pos (by omega)];omega
   omega
  split at h
  ·cases h;exact Nat.le_trans (Nat.le_add_right _ _) (hl _)
  split at h
  ·cases h;exact Nat.le_trans (Nat.le_add_right _ _) (hl _)
  exact Nat.le_trans (DW fuel _ _ _ _ _ _ h) (hl _)
theorem BU{dE:List UInt8->Nat × Int}{dig:Nat->List UInt8}{d:List UInt8}{W C:Nat}:∀(fuel a r:Nat) (s s':St.PS),St.cw dE dig d W C fuel a r s=.ok s'->s'.1.length<=s.1.length+2*fuel
 | 0,a,r,s,s',h=>by rw[St.cw]at h;cases h;omega
 | fuel+1,a,r,s,s',h=>by
  rw[St.cw]at h
  split at h
  ·cases h;omega
  split at h
  ·cases h
  rename_i hr
  split at h
  ·cases h
  have h1:=DW _ _ _ _ _ _ _ hr;have h2:=BU fuel _ _ _ _ h
  split at h1<;>omega
theorem uX.len{fmt:Int}{ps:List St.Pt}(h:uX fmt ps):ps.length<=1000000:=by
 obtain⟨hk,d,pl,_,hs⟩:=h
 have big:∀x:Nat × Int,(([]:List St.Pt),x.1,x.2)=(ps,pl,0)->ps.length<=1000000:=λx e=>by
  have:=congrArg (·.1) e;simp at this;subst this;simp
 have small:∀s:St.PS,s.1.length<=900000->(St.cD d s,0,(0:Int))=(ps,pl,0)->ps.length<=1000000:=λs hl e=>by
  have:=congrArg (·.1) e;simp at this;subst this;simp[St.cD];omega
 rcases hk with rfl|rfl|rfl
 ·have h0:St.gU Mk.dE Lib.decDigits d=(ps,pl,0):=hs;unfold St.gU at h0
  split at h0
  ·exact big (0,3) h0
  split at h0
  ·exact big (_,_) h0
  rename_i hlen _ s hr
  exact small s (by have:=Bz _ _ _ _ _ hr;simp at this;omega) h0
 ·have h0:St.kB dE d=(ps,pl,0):=hs;unfold St.kB at h0
  split at h0
  ·exact big (0,3) h0
  split at h0
  ·exact big (_,_) h0
  rename_i hlen _ s hr
  exact small s (by have:=iJ _ _ _ _ hr;simp at this;omega) h0
 have h0:St.eB Sh.dE Lib.decDigits d=(ps,pl,0):=hs;unfold St.eB at h0
 split at h0
 ·exact big (0,3) h0
 split at h0
 ·exact big (_,_) h0
 split at h0
 ·exact big (0,6) h0
 split at h0
 ·exact big (0,5) h0
 split at h0
 ·exact big (_,_) h0
 rename_i hlen _ _ _ _ _ _ _ _ s hr
 exact small s (by have:=BU _ _ _ _ _ hr;simp at this;omega) h0
end
