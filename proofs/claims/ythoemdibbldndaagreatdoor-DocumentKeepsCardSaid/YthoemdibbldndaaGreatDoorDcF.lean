/- Reading a unit's content: the program's and the reference's Content, for any format. -/
import Derived.Test.YthoemdibbldndaaGreatDoorGJ
set_option linter.all false
set_option maxHeartbeats 0
set_option maxRecDepth 20000
open Go.Value renaming int->Yh,string->Yi,slice->Yj,tuple->Ym
namespace Go.Proofs.YthoemdibbldndaaGreatDoor
open Go.RowKit
section
def D2(l:List UInt8):St.gr:=St.dec St.b7 l.length l 0 0 [] []
def D3(l:List UInt8):St.gr:=St.dec St.cm l.length l 0 0 [] []
theorem wV(d:ByteArray)(w:World)(hd:d.size<=1000000000):Calls Tryz.prog 51 #[Yh .i64 2,Yi d] w (cY (D2 d.1.1) w):=by
 have H:=aa (va d w (by omega));have hR:iY d=D2 d.1.1:=by unfold iY D2;rw[St.aC]
 rw[hR]at H;generalize D2 d.1.1=R at *;obtain⟨f,cu,pl,er⟩:=R;clear hR;go_enter Tryz.func51,Tryz.ntmps51;go_wp2_with fail;refine H.out.mono ?_;rintro e w' ⟨A,c,rfl,hP,h1,h2,hu⟩;have HE:=aa (show cY (f,cu,pl,er) w (.returned (Ym #[Yj A f.length c,Yh .i64 er])) w' from⟨A,c,rfl,hP,h1,h2,hu⟩);clear hP h1 h2 hu;go_wp2;go_ret2;exact HE.out
theorem wW(d:ByteArray)(w:World)(hd:d.size<=1000000000):Calls Tryz.prog 51 #[Yh .i64 3,Yi d] w (cY (D3 d.1.1) w):=by
 have H:=aa (Sh.zuw d w (by omega));have hR:Sh.gx d=D3 d.1.1:=by unfold Sh.gx D3;rw[St.aC]
 rw[hR]at H;generalize D3 d.1.1=R at *;obtain⟨f,cu,pl,er⟩:=R;clear hR;go_enter Tryz.func51,Tryz.ntmps51;go_wp2_with fail;refine H.out.mono ?_;rintro e w' ⟨A,c,rfl,hP,h1,h2,hu⟩;have HE:=aa (show cY (f,cu,pl,er) w (.returned (Ym #[Yj A f.length c,Yh .i64 er])) w' from⟨A,c,rfl,hP,h1,h2,hu⟩);clear hP h1 h2 hu;go_wp2;go_ret2;exact HE.out
def lC(fmt:Int):List UInt8->St.gr:=if fmt=1 then St.D1 else if fmt=2 then D2 else D3
theorem Qt(fmt:Int)(h:fmt=1\/fmt=2\/fmt=3)(d:ByteArray)(w:World)(hd:d.size<=1000000000):Calls Tryz.prog 51 #[Yh .i64 fmt,Yi d] w (cY (lC fmt d.1.1) w):=by
 rcases h with rfl|rfl|rfl
 ·exact xe d w hd
 ·exact wV d w hd
 exact wW d w hd
theorem O8(fmt:Int)(h:fmt=1\/fmt=2\/fmt=3)(d:ByteArray)(w:World)(hd:d.size<=1000000000):Calls Tryz.prog 63 #[Yh .i64 fmt,Yi d] w (fz (lC fmt d.1.1) w):=by
 rcases h with rfl|rfl|rfl
 ·have:=tY 1 St.bV yT vJ d w (by omega)
  rw[<-St.aC]at this;exact this
 ·have:=kZ 2 St.b7 DM ua d w (by omega)
  rw[<-St.aC]at this;exact this
 have:=kZ 3 St.cm DY DZ d w (by omega)
 rw[<-St.aC]at this;exact this
def CD(fmt:Int)(ps:List St.Pt)(k:Int):St.gr:=if fmt=1\/fmt=2\/fmt=3 then St.bO (lC fmt) ps k else([],[],0,1)
theorem cY.bad{R:St.gr}{x:Int}{w w':World}(h:R=([],[],0,x))(u:ac w w'):cY R w (.returned (Ym #[Yj none 0 0,Yh .i64 x])) w':=by
 subst h;exact⟨none,0,rfl,λh=>absurd h (by simp),by simp,by omega,u⟩
theorem Ct(fmt:Int)(A:Option Addr)(n c:Nat)(ps:List St.Pt)(k:Int)(w:World)(hn:ps.length=n)(h:bk w A ps)(hl:n<=9223372036854775807)(hr:(St.b6 ps).length<=1000000000) :
  Calls Tryz.prog 26 #[.agg #[Yh .i64 fmt,Yj A n c],Yh .i64 k] w (cY (CD fmt ps k) w):=by
 by_cases hk:fmt=1\/fmt=2\/fmt=3
 ·unfold CD;rw[if_pos hk];exact Cs A n c ps k w hk (λd W _ hd=>Qt fmt hk d W hd) hn h hl hr
 have hm:=aa (show CD fmt ps k=([],[],0,1)by unfold CD;rw[if_neg hk]);have HK:=aa (λW=>GH fmt W hk);clear hk h;go_enter Tryz.func26,Tryz.ntmps26;go_wp2_with fail;refine(HK.out _).mono ?_;rintro e w2 ⟨rfl,rfl⟩;go_wp2;go_ret2;exact cY.bad hm.out uZ
theorem DF(fmt:Int)(A:Option Addr)(n c:Nat)(ps:List St.Pt)(k:Int)(w:World)(hn:ps.length=n)(h:bk w A ps)(hl:n<=9223372036854775807)(hr:(St.b6 ps).length<=1000000000) :
  Calls Tryz.prog 27 #[.agg #[Yh .i64 fmt,Yj A n c],Yh .i64 k] w (cY (CD fmt ps k) w):=by
 by_cases hk:fmt=1\/fmt=2\/fmt=3
 rotate_left 1
 ·have hm:=aa (show CD fmt ps k=([],[],0,1)by unfold CD;rw[if_neg hk]);have HK:=aa (λW=>ED fmt W hk);clear hk h;go_enter Tryz.func27,Tryz.ntmps27;go_wp2_with fail;refine(HK.out _).mono ?_;rintro e w2 ⟨rfl,rfl⟩;go_wp2;go_ret2;exact cY.bad hm.out uZ
 have Q7:CD fmt ps k=St.bO (lC fmt) ps k:=by unfold CD;rw[if_pos hk]
 rw[Q7];clear Q7;have HK:=aa (λW=>zuv fmt W hk);have HD:=aa (λd W hd=>O8 fmt hk d W hd);generalize lC fmt=D at *;have H:=aa h;have HN:=aa hn;have HR:=aa hr;clear h hn hr hk
 by_cases k0:k<0
 ·have hm:=aa (show St.bO D ps k=([],[],0,6)from pQ (by unfold St.gl;rw[if_neg (by omega)]));go_enter Tryz.func27,Tryz.ntmps27;go_wp2_with fail;refine(HK.out _).mono ?_;rintro e w2 ⟨rfl,rfl⟩;go_wp2;go_ret2;exact cY.lv hm.out uZ
 obtain⟨j,rfl⟩:∃j:Nat,k=j:=⟨k.toNat,by omega⟩
 by_cases kn:j<n
 ·have hj:j<ps.length:=by rw[HN.out];exact kn
  obtain⟨b,off,rfl,hb,hc⟩:=H.out (by omega);obtain⟨c0,c1,c2⟩:=hc j hj;have hpt:St.gl ps (j:Int)=ps[j]:=by unfold St.gl;rw[if_pos (by omega),Int.toNat_natCast,List.getElem?_eq_getElem hj];rfl
  have hrl:=tX ps j hj;have iO:St.bO D ps (j:Int)=if ps[j].1=true then D ps[j].2.2 else([],[],0,6):=by unfold St.bO;rw[hpt]
  generalize ps[j]=x at c0 c1 c2 hrl iO;obtain⟨xu,xk,xr⟩:=x;simp only at c0 c1 c2 hrl iO;haveI:af b w:=af.of hb;have hR:=HR.out;have z1:¬(n:Int)<=(j:Int):=by omega
  have z2:(j:Int)<(n:Int):=by omega
  have z3:¬(j:Int)<0:=by omega
  have ww:=aa iO;clear hc hj hpt k0 iO;cases xu
  ·have hm:=aa (show St.bO D ps (j:Int)=([],[],0,6)by rw[ww.out];rfl);go_enter Tryz.func27,Tryz.ntmps27;go_wp2_with fail;refine(HK.out _).mono ?_;rintro e w2 ⟨rfl,rfl⟩;go_wp2;go_ret2;exact cY.lv hm.out uZ
  have hm:=aa (show St.bO D ps (j:Int)=D xr by rw[ww.out];rfl);have eG:=aa (λW=>HD.out ⟨xr.toArray⟩ W (by show xr.toArray.size<=_;simp;omega));go_enter Tryz.func27,Tryz.ntmps27;go_wp2_with fail;refine(HK.out _).mono ?_;rintro e w2 ⟨rfl,rfl⟩;go_wp2_with fail;go_region_law (refine ej rfl 63 #[Yh .i64 fmt,Yi ⟨xr.toArray⟩] _ (eG.out _) ?_ ?_;(· go_simp;done);rintro e w3 ⟨v1,v2,rfl,hO1,hO2,hu⟩;refine⟨_,rfl,?_⟩)
  all_goals
   obtain⟨A3,c3,rfl,h1,h2⟩:=aJ hO1;have HE:=aa (show cY (D xr) w (.returned (Ym #[Yj A3 (D xr).1.length c3,Yh .i64 (D xr).2.2.2])) w3 from⟨A3,c3,rfl,aW hO1 rfl,h1,by unfold maxLen at h2;omega,ac.trans (uZ) hu⟩);clear hO1 hO2 h1 h2 hu;go_wp2;go_ret2;rw[hm.out];exact HE.out
 have hm:=aa (show St.bO D ps (j:Int)=([],[],0,6)from pQ (by
  unfold St.gl
  rw[if_pos (by omega),Int.toNat_natCast,List.getElem?_eq_none (by rw[HN.out];omega)];rfl))
 have z1:(n:Int)<=(j:Int):=by omega
 have z3:¬(j:Int)<0:=by omega
 go_enter Tryz.func27,Tryz.ntmps27;go_wp2_with fail;refine(HK.out _).mono ?_;rintro e w2 ⟨rfl,rfl⟩;go_wp2;go_ret2;exact cY.lv hm.out uZ
end
section
theorem Dm{dE:List UInt8->Nat × Int}{dig:Nat->List UInt8}{d:List UInt8}:∀(fuel a r:Nat) (s s':St.PS),St.ez dE dig d fuel a r s=.ok s'->s'.1.length<=s.1.length+2*fuel
 | 0,a,r,s,s',h=>by rw[St.ez]at h;cases h;omega
 | fuel+1,a,r,s,s',h=>by
  rw[St.ez]at h
  split at h
  ·cases h;omega
  split at h
  ·cases h
  split at h
  ·have:=Dm fuel _ _ _ _ h;omega
  simp only[]at h
  split at h
  ·split at h<;>cases h
  split at h
  ·cases h
  have:=Dm fuel _ _ _ _ h
  simp[St.bi]at this;omega
theorem iZ{dE:List UInt8->Nat × Int}{d:List UInt8}:∀(fuel a:Nat) (s s':St.PS),St.de dE d fuel a s=.ok s'->s'.1.length<=s.1.length+2*fuel
 | 0,a,s,s',h=>by rw[St.de]at h;cases h;omega
 | fuel+1,a,s,s',h=>by
  rw[St.de]at h
  split at h
  ·cases h;omega
  split at h
  ·have:=iZ fuel _ _ _ h;omega
  simp only[]at h
  split at h
  ·cases h
  split at h
  ·cases h
  split at h
  ·cases h
  have:=iZ fuel _ _ _ h
  simp[St.bi]at this;omega
theorem FY{dE:List UInt8->Nat × Int}{d key:List UInt8}{W C:Nat}:∀(fuel a n:Nat) (s:St.PS) (e m:Nat) (s':St.PS),St.dv dE d W C key fuel a n s=.ok (e,m,s')->s'.1.length<=s.1.length+(if n<=C then 2 else 0)
 | 0,a,n,s,e,m,s',h=>by rw[St.dv]at h;cases h
 | fuel+1,a,n,s,e,m,s',h=>by
  rw[St.dv]at h
  split at h
  ·cases h
  split at h
  ·cases h
  split at h
  ·cases h
  simp only[]at h
  have hl:∀k:Nat,(if n=C then St.bi d s (a+1) (a+k-1) key else s).1.length+(if n+1<=C then 2 else 0)<=s.1.length+(if n<=C then 2 else 0):=λk=>by
   split
   ·rename_i hn
    rw[if_neg (by omega),if_pos (by omega)];simp[St.bi]
   split
   ·rw[if_pos (by omega)];omega
   omega
  split at h
  ·cases h;exact Nat.le_trans (Nat.le_add_right _ _) (hl _)
  split at h
  ·cases h;exact Nat.le_trans (Nat.le_add_right _ _) (hl _)
  exact Nat.le_trans (FY fuel _ _ _ _ _ _ h) (hl _)
theorem DG{dE:List UInt8->Nat × Int}{dig:Nat->List UInt8}{d:List UInt8}{W C:Nat}:∀(fuel a r:Nat) (s s':St.PS),St.cE dE dig d W C fuel a r s=.ok s'->s'.1.length<=s.1.length+2*fuel
 | 0,a,r,s,s',h=>by rw[St.cE]at h;cases h;omega
 | fuel+1,a,r,s,s',h=>by
  rw[St.cE]at h
  split at h
  ·cases h;omega
  split at h
  ·cases h
  rename_i hr
  split at h
  ·cases h
  have h1:=FY _ _ _ _ _ _ _ hr;have h2:=DG fuel _ _ _ _ h
  split at h1<;>omega
theorem wv.len{fmt:Int}{ps:List St.Pt}(h:wv fmt ps):ps.length<=1000000:=by
 obtain⟨hk,d,pl,_,hs⟩:=h
 have big:∀x:Nat × Int,(([]:List St.Pt),x.1,x.2)=(ps,pl,0)->ps.length<=1000000:=λx e=>by
  have:=congrArg (·.1) e;simp at this;subst this;simp
 have small:∀s:St.PS,s.1.length<=900000->(St.cI d s,0,(0:Int))=(ps,pl,0)->ps.length<=1000000:=λs hl e=>by
  have:=congrArg (·.1) e;simp at this;subst this;simp[St.cI];omega
 rcases hk with rfl|rfl|rfl
 ·have h0:St.ij Mk.dE Lib.decDigits d=(ps,pl,0):=hs;unfold St.ij at h0
  split at h0
  ·exact big (0,3) h0
  split at h0
  ·exact big (_,_) h0
  rename_i hlen _ s hr
  exact small s (by have:=Dm _ _ _ _ _ hr;simp at this;omega) h0
 ·have h0:St.lc dE d=(ps,pl,0):=hs;unfold St.lc at h0
  split at h0
  ·exact big (0,3) h0
  split at h0
  ·exact big (_,_) h0
  rename_i hlen _ s hr
  exact small s (by have:=iZ _ _ _ _ hr;simp at this;omega) h0
 have h0:St.eI Sh.dE Lib.decDigits d=(ps,pl,0):=hs;unfold St.eI at h0
 split at h0
 ·exact big (0,3) h0
 split at h0
 ·exact big (_,_) h0
 split at h0
 ·exact big (0,6) h0
 split at h0
 ·exact big (0,5) h0
 split at h0
 ·exact big (_,_) h0
 rename_i hlen _ _ _ _ _ _ _ _ s hr
 exact small s (by have:=DG _ _ _ _ _ hr;simp at this;omega) h0
end
