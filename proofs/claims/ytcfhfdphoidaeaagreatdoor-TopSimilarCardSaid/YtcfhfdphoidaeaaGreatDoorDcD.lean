/- The functions of format 1, markup, as the document's package calls them. -/
import Derived.Test.YtcfhfdphoidaeaaGreatDoorDcC
import Derived.Test.YtcfhfdphoidaeaaGreatDoorRdsA
import Derived.Test.YtcfhfdphoidaeaaGreatDoorGO
set_option linter.unusedVariables false
set_option linter.unusedSimpArgs false
set_option maxHeartbeats 12800000
namespace Go.Proofs.YtcfhfdphoidaeaaGreatDoor
open Go.RowKit
namespace St
theorem mark_ok:ElOk markL:=fun l k t n h=>by
 obtain⟨_,h1,h2,h3⟩:=mark_len h;refine⟨h1,h2,h3,?_⟩;rintro rfl
 match l,h with
 | c :: r,h=>
  by_cases h60:c.toNat=60
  ·rw[mark_60 h60] at h
   unfold inlL at h;cases hq:tagL (c :: r) with
   | none=>rw[hq] at h;cases h
   | some x=>
    obtain⟨k',t',n'⟩:=x;rw[hq] at h;simp only at h
    split at h
    ·cases h
    ·simp only[Option.some.injEq,Prod.mk.injEq] at h
     obtain⟨rfl,rfl,rfl⟩:=h;have:=(tag_len hq).1
     omega
  by_cases h38:c.toNat=38
  ·rw[mark_38 h38] at h
   exact(ref_len h).2.2.2
  by_cases h123:c.toNat=123
  ·rw[mark_123 h123] at h
   cases hq:slotL (c :: r) with
   | none=>rw[hq] at h;cases h
   | some x=>rw[hq] at h;simp at h
  ·rw[mark_else h60 h38 h123] at h
   simp only[Option.some.injEq,Prod.mk.injEq] at h;obtain⟨_,rfl,_⟩:=h;rfl
def D1(l:List UInt8):Res:=decFT markL l 0 0 [] [] [] 0
def S1(l:List UInt8):List Pt × Nat × Int:=splitM Mk.dE Lib.decDigits l
theorem D1_of(x:ByteArray):Mk.mkD x=D1 x.data.toList:=Mk.mkD_F x
theorem D1_ok(d:List UInt8)(h:(D1 d).2.2.2=0):DecOk d.length (D1 d):=by
 unfold D1 decFT at h ⊢;exact decT_ok mark_ok d.length d 0 0 [] [] [] 0 (by constructor) (by simp) rfl (by simp) (by simp) (by omega) (by omega) (by simp[tot]) h
end St
theorem fm1_split(d:ByteArray)(w:World)(hL:Mk.LibAt w)(hd:d.size<=1000000000):Calls Tryz.prog 50 #[.int .i64 1,.string d] w (Mk.SplitEnd (St.S1 d.data.toList) w):=by
 have H:=hid (Mk.msplit_any d w hL (by omega));have hR:Mk.mkT d=St.S1 d.data.toList:=rfl;rw[hR] at H;generalize St.S1 d.data.toList=R at *;obtain⟨ps,pl,er⟩:=R;clear hL hR;go_enter Tryz.func50,Tryz.ntmps50;go_wp2_with fail;refine H.out.mono ?_;rintro e w' ⟨A,c,rfl,hP,h1,h2,hu⟩;have HE:=hid (show Mk.SplitEnd (ps,pl,er) w (.returned (.tuple #[.slice A ps.length c,.int .i64 (pl:Int),.int .i64 er])) w' from⟨A,c,rfl,hP,h1,h2,hu⟩);clear hP h1 h2 hu;go_wp2;go_ret3;exact HE.out
theorem fm1_decode(d:ByteArray)(w:World)(hd:d.size<=1000000000):Calls Tryz.prog 51 #[.int .i64 1,.string d] w (ContEnd (St.D1 d.data.toList) w):=by
 have H:=hid (Mk.mdecode_any d w (by omega));rw[St.D1_of] at H;generalize St.D1 d.data.toList=R at *;obtain⟨f,cu,pl,er⟩:=R;go_enter Tryz.func51,Tryz.ntmps51;go_wp2_with fail;refine H.out.mono ?_;rintro e w' ⟨A,c,rfl,hP,h1,h2,hu⟩;have HE:=hid (show ContEnd (f,cu,pl,er) w (.returned (.tuple #[.slice A f.length c,.int .i64 er])) w' from⟨A,c,rfl,hP,h1,h2,hu⟩);clear hP h1 h2 hu;go_wp2;go_ret2;exact HE.out
theorem fm1_cuts(d:ByteArray)(w:World)(hd:d.size<=1000000000):Calls Tryz.prog 61 #[.int .i64 1,.string d] w (Mk.CutsEnd (St.D1 d.data.toList) w):=by
 have H:=hid (Mk.mcuts_any d w (by omega));rw[St.D1_of] at H;generalize St.D1 d.data.toList=R at *;obtain⟨f,cu,pl,er⟩:=R;go_enter Tryz.func61,Tryz.ntmps61;go_wp2_with fail;refine H.out.mono ?_;rintro e w' ⟨A,c,rfl,hP,h1,h2,hu⟩;have HE:=hid (show Mk.CutsEnd (f,cu,pl,er) w (.returned (.tuple #[.slice A cu.length c,.int .i64 er])) w' from⟨A,c,rfl,hP,h1,h2,hu⟩);clear hP h1 h2 hu;go_wp2;go_ret2;exact HE.out
theorem fm1_encode(A:Option Addr)(n c:Nat)(f:List St.It)(w:World)(hn:f.length=n)(hnc:n<=c)(hc63:c<=9223372036854775807)(h:ItemsAt w A f)(hl:n<=1000000000)(ht:tot f<=1000000000000) :
  Calls Tryz.prog 62 #[.int .i64 1,.slice A n c] w fun e w'=>e=.returned (.tuple #[.string ⟨(St.encS 1 f).1.toArray⟩,.int .i64 (St.encS 1 f).2])/\Und w w':=by
 have H:=hid (mencode_any A n c f w hn hnc hc63 h hl ht);generalize St.encS 1 f=R at *;obtain⟨s,er⟩:=R;clear h hn ht;go_enter Tryz.func62,Tryz.ntmps62;go_wp2_with fail;refine H.out.mono ?_;rintro e w' ⟨rfl,hu⟩;have HU:=hid hu;clear hu;go_wp2;go_ret2;exact⟨rfl,HU.out⟩
theorem fm1(w:World)(hL:Mk.LibAt w):FmAt w 1 St.D1 St.S1:=
 ⟨.inl rfl,fun d w' hw hd=>fm1_split d w' (hL.und hw) hd,fun d w' _ hd=>fm1_decode d w' hd,fun d w' _ hd=>fm1_cuts d w' hd,fun A n c f w' _ hn hnc hc h hl ht=>fm1_encode A n c f w' hn hnc hc h hl ht,St.D1_ok⟩
end Go.Proofs.YtcfhfdphoidaeaaGreatDoor
