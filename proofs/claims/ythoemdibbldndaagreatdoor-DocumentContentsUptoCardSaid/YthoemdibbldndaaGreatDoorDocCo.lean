/- Reading a unit's content: the program's and the reference's Content, for any format. -/
import Derived.Test.YthoemdibbldndaaGreatDoorGJ
set_option linter.unusedVariables false
set_option linter.unusedSimpArgs false
set_option maxHeartbeats 12800000
set_option maxRecDepth 20000
namespace Go.Proofs.YthoemdibbldndaaGreatDoor
open Go.RowKit
def D2(l:List UInt8):St.Res:=St.dec St.resL l.length l 0 0 [] []
def D3(l:List UInt8):St.Res:=St.dec St.sheetL l.length l 0 0 [] []
theorem de2_decode(d:ByteArray)(w:World)(hd:d.size<=1000000000):Calls Tryz.prog 51 #[.int .i64 2,.string d] w (ContEnd (D2 d.data.toList) w):=by
 have H:=hid (xdecode_any d w (by omega));have hR:resD d=D2 d.data.toList:=by unfold resD D2;rw[St.len_list]
 rw[hR] at H;generalize D2 d.data.toList=R at *;obtain⟨f,cu,pl,er⟩:=R;clear hR;go_enter Tryz.func51,Tryz.ntmps51;go_wp2_with fail;refine H.out.mono ?_;rintro e w' ⟨A,c,rfl,hP,h1,h2,hu⟩;have HE:=hid (show ContEnd (f,cu,pl,er) w (.returned (.tuple #[.slice A f.length c,.int .i64 er])) w' from⟨A,c,rfl,hP,h1,h2,hu⟩);clear hP h1 h2 hu;go_wp2;go_ret2;exact HE.out
theorem de3_decode(d:ByteArray)(w:World)(hd:d.size<=1000000000):Calls Tryz.prog 51 #[.int .i64 3,.string d] w (ContEnd (D3 d.data.toList) w):=by
 have H:=hid (Sh.sdecode_any d w (by omega));have hR:Sh.sheetD d=D3 d.data.toList:=by unfold Sh.sheetD D3;rw[St.len_list]
 rw[hR] at H;generalize D3 d.data.toList=R at *;obtain⟨f,cu,pl,er⟩:=R;clear hR;go_enter Tryz.func51,Tryz.ntmps51;go_wp2_with fail;refine H.out.mono ?_;rintro e w' ⟨A,c,rfl,hP,h1,h2,hu⟩;have HE:=hid (show ContEnd (f,cu,pl,er) w (.returned (.tuple #[.slice A f.length c,.int .i64 er])) w' from⟨A,c,rfl,hP,h1,h2,hu⟩);clear hP h1 h2 hu;go_wp2;go_ret2;exact HE.out
def DOf(fmt:Int):List UInt8->St.Res:=if fmt=1 then St.D1 else if fmt=2 then D2 else D3
theorem de_any(fmt:Int)(h:fmt=1∨fmt=2∨fmt=3)(d:ByteArray)(w:World)(hd:d.size<=1000000000):Calls Tryz.prog 51 #[.int .i64 fmt,.string d] w (ContEnd (DOf fmt d.data.toList) w):=by
 rcases h with rfl|rfl|rfl
 ·exact fm1_decode d w hd
 ·exact de2_decode d w hd
 ·exact de3_decode d w hd
theorem rde_any(fmt:Int)(h:fmt=1∨fmt=2∨fmt=3)(d:ByteArray)(w:World)(hd:d.size<=1000000000):Calls Tryz.prog 63 #[.int .i64 fmt,.string d] w (RDecEnd (DOf fmt d.data.toList) w):=by
 rcases h with rfl|rfl|rfl
 ·have:=rdecT_any 1 St.markL mark_at mark_okT d w (by omega)
  rw[<- St.len_list] at this;exact this
 ·have:=rdecode_any 2 St.resL res_at res_ok d w (by omega)
  rw[<- St.len_list] at this;exact this
 ·have:=rdecode_any 3 St.sheetL sheet_at sheet_ok d w (by omega)
  rw[<- St.len_list] at this;exact this
def CD(fmt:Int)(ps:List St.Pt)(k:Int):St.Res:=if fmt=1∨fmt=2∨fmt=3 then St.contD (DOf fmt) ps k else ([],[],0,1)
theorem ContEnd.bad{R:St.Res}{x:Int}{w w':World}(h:R=([],[],0,x))(u:Und w w'):ContEnd R w (.returned (.tuple #[.slice none 0 0,.int .i64 x])) w':=by
 subst h;exact⟨none,0,rfl,fun h=>absurd h (by simp),by simp,by omega,u⟩
theorem dcontent_all(fmt:Int)(A:Option Addr)(n c:Nat)(ps:List St.Pt)(k:Int)(w:World)(hn:ps.length=n)(h:PartsAt w A ps)(hl:n<=9223372036854775807)(hr:(St.rawP ps).length<=1000000000) :
  Calls Tryz.prog 26 #[.agg #[.int .i64 fmt,.slice A n c],.int .i64 k] w (ContEnd (CD fmt ps k) w):=by
 by_cases hk:fmt=1∨fmt=2∨fmt=3
 ·unfold CD
  rw[if_pos hk];exact dcont_sp A n c ps k w hk (fun d W _ hd=>de_any fmt hk d W hd) hn h hl hr
 ·have hm:=hid (show CD fmt ps k=([],[],0,1) by unfold CD;rw[if_neg hk])
  have HK:=hid (fun W=>dknown_bad fmt W hk);clear hk h;go_enter Tryz.func26,Tryz.ntmps26;go_wp2_with fail;refine(HK.out _).mono ?_;rintro e w2 ⟨rfl,rfl⟩;go_wp2;go_ret2;exact ContEnd.bad hm.out (by apply_rules[uUe,uUa,uUb,uUc,uUd])
theorem rcontent_all(fmt:Int)(A:Option Addr)(n c:Nat)(ps:List St.Pt)(k:Int)(w:World)(hn:ps.length=n)(h:PartsAt w A ps)(hl:n<=9223372036854775807)(hr:(St.rawP ps).length<=1000000000) :
  Calls Tryz.prog 27 #[.agg #[.int .i64 fmt,.slice A n c],.int .i64 k] w (ContEnd (CD fmt ps k) w):=by
 by_cases hk:fmt=1∨fmt=2∨fmt=3
 rotate_left 1
 ·have hm:=hid (show CD fmt ps k=([],[],0,1) by unfold CD;rw[if_neg hk])
  have HK:=hid (fun W=>rformat_bad fmt W hk);clear hk h;go_enter Tryz.func27,Tryz.ntmps27;go_wp2_with fail;refine(HK.out _).mono ?_;rintro e w2 ⟨rfl,rfl⟩;go_wp2;go_ret2;exact ContEnd.bad hm.out (by apply_rules[uUe,uUa,uUb,uUc,uUd])
 have hcd0:CD fmt ps k=St.contD (DOf fmt) ps k:=by unfold CD;rw[if_pos hk]
 rw[hcd0];clear hcd0;have HK:=hid (fun W=>rformat_any fmt W hk);have HD:=hid (fun d W hd=>rde_any fmt hk d W hd);generalize DOf fmt=D at *;have H:=hid h;have HN:=hid hn;have HR:=hid hr;clear h hn hr hk
 by_cases k0:k<0
 ·have hm:=hid (show St.contD D ps k=([],[],0,6) from cont_miss (by unfold St.ptAt;rw[if_neg (by omega)]))
  go_enter Tryz.func27,Tryz.ntmps27;go_wp2_with fail;refine(HK.out _).mono ?_;rintro e w2 ⟨rfl,rfl⟩;go_wp2;go_ret2;exact ContEnd.miss hm.out (by apply_rules[uUe,uUa,uUb,uUc,uUd])
 ·obtain⟨j,rfl⟩:∃ j:Nat,k=j:=⟨k.toNat,by omega⟩
  by_cases kn:j<n
  ·have hj:j<ps.length:=by rw[HN.out];exact kn
   obtain⟨b,off,rfl,hb,hc⟩:=H.out (by omega);obtain⟨c0,c1,c2⟩:=hc j hj;have hpt:St.ptAt ps (j:Int)=ps[j]:=by unfold St.ptAt;rw[if_pos (by omega),Int.toNat_natCast,List.getElem?_eq_getElem hj];rfl
   have hrl:=raw_at ps j hj;have hcd:St.contD D ps (j:Int)=if ps[j].1=true then D ps[j].2.2 else ([],[],0,6):=by unfold St.contD;rw[hpt]
   generalize ps[j]=x at c0 c1 c2 hrl hcd;obtain⟨xu,xk,xr⟩:=x;simp only at c0 c1 c2 hrl hcd;haveI:LtW b w:=LtW.of hb;have hR:=HR.out;have z1:¬ (n:Int)<=(j:Int):=by omega
   have z2:(j:Int)<(n:Int):=by omega
   have z3:¬ (j:Int)<0:=by omega
   have HCD:=hid hcd;clear hc hj hpt k0 hcd;cases xu
   ·have hm:=hid (show St.contD D ps (j:Int)=([],[],0,6) by rw[HCD.out];rfl)
    go_enter Tryz.func27,Tryz.ntmps27;go_wp2_with fail;refine(HK.out _).mono ?_;rintro e w2 ⟨rfl,rfl⟩;go_wp2;go_ret2;exact ContEnd.miss hm.out (by apply_rules[uUe,uUa,uUb,uUc,uUd])
   ·have hm:=hid (show St.contD D ps (j:Int)=D xr by rw[HCD.out];rfl)
    have hdc:=hid (fun W=>HD.out ⟨xr.toArray⟩ W (by show xr.toArray.size<=_;simp;omega));go_enter Tryz.func27,Tryz.ntmps27;go_wp2_with fail;refine(HK.out _).mono ?_;rintro e w2 ⟨rfl,rfl⟩;go_wp2_with fail;go_region_law (refine step_callX rfl 63 #[.int .i64 fmt,.string ⟨xr.toArray⟩] _ (hdc.out _) ?_ ?_;(· go_simp;done);rintro e w3 ⟨v1,v2,rfl,hO1,hO2,hu⟩;refine⟨_,rfl,?_⟩)
    all_goals
     obtain⟨A3,c3,rfl,h1,h2⟩:=own_slice hO1;have HE:=hid (show ContEnd (D xr) w (.returned (.tuple #[.slice A3 (D xr).1.length c3,.int .i64 (D xr).2.2.2])) w3 from⟨A3,c3,rfl,items_own hO1 rfl,h1,by unfold maxLen at h2;omega,Und.trans ((by apply_rules[uUe,uUa,uUb,uUc,uUd])) hu⟩);clear hO1 hO2 h1 h2 hu;go_wp2;go_ret2;rw[hm.out];exact HE.out
  ·have hm:=hid (show St.contD D ps (j:Int)=([],[],0,6) from cont_miss (by
    unfold St.ptAt
    rw[if_pos (by omega),Int.toNat_natCast,List.getElem?_eq_none (by rw[HN.out];omega)];rfl))
   have z1:(n:Int)<=(j:Int):=by omega
   have z3:¬ (j:Int)<0:=by omega
   go_enter Tryz.func27,Tryz.ntmps27;go_wp2_with fail;refine(HK.out _).mono ?_;rintro e w2 ⟨rfl,rfl⟩;go_wp2;go_ret2;exact ContEnd.miss hm.out (by apply_rules[uUe,uUa,uUb,uUc,uUd])
end Go.Proofs.YthoemdibbldndaaGreatDoor
