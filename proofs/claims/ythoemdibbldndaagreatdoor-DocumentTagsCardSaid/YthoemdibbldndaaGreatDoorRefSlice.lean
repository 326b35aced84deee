/- The contract of the reference's Slice between two positions: what it gives is. -/
import Derived.Test.YthoemdibbldndaaGreatDoorGB
import Derived.Deep.RegionHeld3
import Derived.OrdersHeld
set_option linter.all false
set_option maxHeartbeats 0
set_option maxRecDepth 20000
open Go.Value renaming int->UM,string->UN,slice->UO
open Go.IntKind renaming i64->US
open Go.Obj renaming cells->UT
open Option renaming none->UW,some->UX
namespace Go.Proofs.YthoemdibbldndaaGreatDoor
open Go.RowKit
theorem FR(a b:Nat)(f:List St.It)(k:Nat)(h:k<f.length):St.br a b 0 (f.take (k+1))=St.br a b 0 (f.take k)++St.br a b (St.ay (f.take k)) [f[k]]:=by
 rw[List.take_add_one,List.getElem?_eq_getElem h];have:=St.tT a b (f.take k) f[k] 0
 rw[Nat.zero_add]at this;exact this
theorem IL(a b:Nat)(f:List St.It):∀at',(St.br a b at' f).length<=f.length:=by
 induction f with
 | nil=>intro at';simp[St.br]
 | cons x f ih=>
  intro at';rw[St.br,List.length_append];have:=ih (at'+St.a7 x)
  have h1:(if x.1=1 then(if max a at' - at'<min b (at'+x.2.1.length)-at' then[((1:Int),(x.2.1.take (min b (at'+x.2.1.length)-at')).drop (max a at' - at'),x.2.2)]else[])else(if a<=at'/\at'<b then[x]else[])).length<=1:=by
   repeat' split
   all_goals simp
  simp only[List.length_cons];omega
def Gu(w:World)(a b:Nat)(f:List St.It)(n:Nat)(s8 s9 ID:Value)(wr:World):Prop:=
 ∃k:Nat,k<=n/\ID=UM US k/\s9=UM US (St.ay (f.take k):Nat)/\wr.ownsRow w.1.size 36 3 s8 (St.br a b 0 (f.take k)).length (av (St.br a b 0 (f.take k)))/\ac w wr
theorem FL(A:Option Addr)(n c:Nat)(f:List St.It)(a b:Nat)(w:World)(hn:f.length=n)(h:aO w A f)(hl:n<=100000)(ht:bc f<=4611686018427387904)(hab:a<=b)(hbl:b<=St.ay f) :
  Calls Tryz.prog 34 #[UO A n c,UM US a,UM US b] w λe w'=>∃v,e=.returned (.tuple #[v,.bool true])/\w'.ownsRow w.1.size 36 3 v (St.br a b 0 f).length (av (St.br a b 0 f))/\ac w w':=by
 have H:=aa h;have HN:=aa hn;have hle:=aa (kA A n c f w hn h (by omega) ht);have hll:=jb f;have zY:=aa (show St.ay f<=4611686018427387904+100000 by omega);obtain⟨i0,hi,hz0,hz1,hz2⟩:=info_parts dw;have y1:¬(a:Int)<0:=by omega
 have y2:¬(b:Int)<(a:Int):=by omega
 have y3:¬((St.ay f:Nat):Int)<(b:Int):=by omega
 have y4:¬St.ay f<b:=by omega
 clear h hn hll;go_enter Tryz.func34,Tryz.ntmps34;go_wp2_with fail;refine hle.out.mono ?_;rintro e w' ⟨rfl,rfl⟩;go_wp2_with fail;go_loopw [8,9,29] (λs8 s9 ID wr=>Gu w a b f n s8 s9 ID wr) (λ_ _ ID _=>n+1-(intOf ID).toNat)
 case atStart=>exact⟨0,by omega,rfl,rfl,World.ownsRow_nil _ _ _ _,ac.refl _⟩
 case round=>
  obtain⟨k,hk,rfl,rfl,hown,hu⟩:=hrel;have HU:=aa hu;have HO:=aa hown;have hsz:=hu.size;clear hu hown y1 y2 y3 hle;have hN:=HN.out
  by_cases hlt:k<n
  ·have aS:k<f.length:=by omega
   obtain⟨g,off,rfl,hg,hc⟩:=(H.out.ai HU.out) (by omega);obtain⟨c0,c1,c2⟩:=hc k aS;have hst:=FR a b f k aS;have hlk:=pi f k aS
   have fM:St.ay (f.take (k+1))<=St.ay f:=by
    have:St.ay f=St.ay (f.take (k+1))+St.ay (f.drop (k+1)):=by
     conv=>lhs;rw[<-List.take_append_drop (k+1) f]
     unfold St.ay;rw[List.map_append,List.sum_append]
    omega
   have hsl:=IL a b (f.take k) 0;have SZ:=zY.out;have hx1:=j1 f k aS;have hx2:=fS f (k+1);generalize f[k]=x at c0 c1 c2 hst hlk hx1;obtain⟨kd,tx,id⟩:=x;simp only at c0 c1 c2 hx1;generalize hO:St.br a b 0 (f.take k)=O at HO hst hsl;generalize St.ay (f.take k)=m at hst hlk |-;haveI:af g wr:=af.of hg;obtain⟨A8,c8,rfl,_,_,hA8⟩:=aT HO.out;have NZ:O.length<=100000:=by simp at hsl;omega
   have htl:(⟨tx.toArray⟩:ByteArray).size=tx.length:=by show tx.toArray.size=_;simp
   have SX:=HO.out.1;have rW:=aa hlk;have HST:=aa hst;have OO:∀W v,W.ownsRow w.1.size 36 3 v (St.br a b 0 (f.take (k+1))).length (av (St.br a b 0 (f.take (k+1))))->ac w W->Gu w a b f n v (UM US (St.ay (f.take (k+1)):Nat)) (UM US ((k:Int)+1)) W:=λW v ho hu=>⟨k+1,by omega,congrArg (UM US) (by omega),rfl,ho,hu⟩
   have lx:=aa OO;clear hc aS hsl hO hst hlk OO SX
   by_cases du:kd=1
   ·subst du;have hw1:St.ay (f.take (k+1))=m+tx.length:=by rw[rW.out];simp[St.a7]
    have hmb:m+tx.length<=4611686018427487904:=by omega
    have HW:=aa hw1;obtain⟨p,hp⟩:∃p,p=max a m-m:=⟨_,rfl⟩;obtain⟨q,hq⟩:∃q,q=min b (m+tx.length)-m:=⟨_,rfl⟩;have TR:=hab;have hb':b<=4611686018427487904:=by omega
    have e1:max (a:Int) (m:Int)-(m:Int)=(p:Int):=by omega
    have hs1:St.br a b m [((1:Int),tx,id)]=if p<q then[(1,(tx.take q).drop p,id)]else[]:=by
     simp only[St.br,if_true,List.append_nil,<-hp,<-hq]
    have ls:=aa (HST.out.trans (by rw[hs1]));clear hs1 hw1 fM
    by_cases Um:a<m
    ·by_cases Ta:m+tx.length<b
     ·have za:(a:Int)<(m:Int):=by omega
      have zb:(m:Int)+(tx.length:Int)<(b:Int):=by omega
      have e3:(m:Int)+(tx.length:Int)-(m:Int)=(tx.length:Int):=by omega
      have hp0:p=0:=by omega
      subst hp0
      by_cases pc:0<q
      ·have hq0:q=tx.length:=by omega
       subst hq0;have qi:tx.length<=tx.length:=by omega
       have z1:((0:Nat):Int)<((tx.length:Nat):Int):=by omega
       have z2:(0:Int)<=((0:Nat):Int):=by omega
       have z3:((0:Nat):Int)<=((tx.length:Nat):Int):=by omega
       have z4:((tx.length:Nat):Int)<=(tx.length:Int):=by omega
       have z0:(0:Int)<((tx.length:Nat):Int):=by omega
       obtain⟨sx,hsx⟩:∃sx:ByteArray,(⟨tx.toArray⟩:ByteArray).extract 0 tx.length=sx:=⟨_,rfl⟩;have hsl:sx.1.1=(tx.take tx.length).drop 0:=by rw[<-hsx,Lib.extract_data,List.drop_take]
       have cU:=ls.out;rw[if_pos pc]at cU;have lu:=aa cU;clear hp hq cU;go_wp2_with fail
       first|refine aM (by kernel_rfl) (by kernel_rfl) ?_|refine aQ (by kernel_rfl) (by kernel_rfl) ?_
       repeat (go_big_quiet_step (first|(fail)))
       refine wpQuiet_nil ?_;rintro _ ⟨X,rfl⟩;obtain⟨w5,hw5⟩:∃w5,w5=under (wr.alloc (UT #[UM US 1,UN ⟨tx.toArray⟩,UM US id] 36)) X:=⟨_,rfl⟩;have bo:ac wr w5:=by rw[hw5];exact((ac.refl _).alloc _).under X
       have d1:w5.cell? ⟨wr.1.size,1,UW⟩=UX (UN ⟨tx.toArray⟩):=by rw[hw5];go_simp
       have d2:w5.cell? ⟨wr.1.size,2,UW⟩=UX (UM US id):=by rw[hw5];go_simp
       rw[<-hw5];haveI:af wr.1.size w5:=af.of (cM _ _ d1);have eW:=aa (aE bo HO.out);have cL:=aa (HU.out.trans bo);have Bb:=cL.out.size;clear hw5 bo c0 c1 c2;go_wp2_with fail;go_region_law (refine cH rfl (.tmp 70) (.tmp 79) 37 rfl w.1.size 36 i0 (.agg #[.int .i64 0,.string ⟨#[]⟩,.int .i64 0]) 3 32 Tryz.underlying37 hi hz0 hz1 hz2 rfl (by decide) (.slice A8 O.length c8) O.length _ rfl (eK (eW.out.alloc (.cells #[.int .i64 1,.string sx,.int .i64 id] 36)) (ac.refl _).drew) ⟨w5.1.size,0,none⟩ 1 1 [.int .i64 1,.string sx,.int .i64 id] rfl rfl (eA w5 _ _ _ 36 _ rfl) (cN 1 id _) (by unfold maxLen;omega) (by omega) (by simp<;>omega) ?_;intro v' w6 hown' hgrow _;have hgr:=aW (ac.gb (uZ:ac w5 (w5.alloc (.cells #[.int .i64 1,.string sx,.int .i64 id] 36)).drew) (Value.slice A8 O.length c8).ownBlock) hgrow (λg e=>Or.inl e);have nv:some wr.1.size≠(Value.slice A8 O.length c8).ownBlock:=λe=>(by have:=(HO.out.lt _ e.symm).2;omega);have g1:=(dd hgr (p:=⟨wr.1.size,1,none⟩) (af.lt inferInstance) nv).trans d1;haveI:af wr.1.size w6:=af.of (cM _ _ g1))
       all_goals
        have hrel:=lx.out w6 v' (by rw[lu.out,bE,List.length_append,List.length_singleton,<-hsl,be];exact hown') (cL.out.grown hgr (λg hg=>aG eW.out g hg));rw[HW.out]at hrel;have bP:=aa hrel;clear hrel hown' hgrow hgr nv;go_wp2
        first|exact⟨bP.out,by simp[intOf];omega⟩|(refine⟨?_,by simp[intOf];omega⟩;(repeat apply Exists.intro);exact⟨bP.out,rfl⟩)
      have z1:¬((0:Int))<(tx.length:Int):=by omega
      have cU:=ls.out;rw[if_neg pc,List.append_nil]at cU;have lu:=aa cU;clear hp hq cU;go_wp2_with fail
      first|refine aM (by kernel_rfl) (by kernel_rfl) ?_|refine aQ (by kernel_rfl) (by kernel_rfl) ?_
      repeat (go_big_quiet_step (first|(fail)))
      refine wpQuiet_nil ?_;rintro _ ⟨X,rfl⟩;obtain⟨w5,hw5⟩:∃w5,w5=under (wr.alloc (UT #[UM US 1,UN ⟨tx.toArray⟩,UM US id] 36)) X:=⟨_,rfl⟩;have bo:ac wr w5:=by rw[hw5];exact((ac.refl _).alloc _).under X
      have d1:w5.cell? ⟨wr.1.size,1,UW⟩=UX (UN ⟨tx.toArray⟩):=by rw[hw5];go_simp
      rw[<-hw5];haveI:af wr.1.size w5:=af.of (cM _ _ d1);have hrel:=lx.out w5 (UO A8 O.length c8) (by rw[lu.out];exact aE bo HO.out) (HU.out.trans bo);rw[HW.out]at hrel;have bP:=aa hrel;clear hrel hw5 bo c0 c1 c2;go_wp2
      first|exact⟨bP.out,by simp[intOf];omega⟩|(refine⟨?_,by simp[intOf];omega⟩;(repeat apply Exists.intro);exact⟨bP.out,rfl⟩)
     have za:(a:Int)<(m:Int):=by omega
     have zb:¬(m:Int)+(tx.length:Int)<(b:Int):=by omega
     have hp0:p=0:=by omega
     subst hp0
     by_cases pc:0<q
     ·have e2:(b:Int)-(m:Int)=(q:Int):=by omega
      have qi:q<=tx.length:=by omega
      have z1:((0:Nat):Int)<((q:Nat):Int):=by omega
      have z2:(0:Int)<=((0:Nat):Int):=by omega
      have z3:((0:Nat):Int)<=((q:Nat):Int):=by omega
      have z4:((q:Nat):Int)<=(tx.length:Int):=by omega
      have z0:(0:Int)<((q:Nat):Int):=by omega
      obtain⟨sx,hsx⟩:∃sx:ByteArray,(⟨tx.toArray⟩:ByteArray).extract 0 q=sx:=⟨_,rfl⟩;have hsl:sx.1.1=(tx.take q).drop 0:=by rw[<-hsx,Lib.extract_data,List.drop_take]
      have cU:=ls.out;rw[if_pos pc]at cU;have lu:=aa cU;clear hp hq cU;go_wp2_with fail
      first|refine aM (by kernel_rfl) (by kernel_rfl) ?_|refine aQ (by kernel_rfl) (by kernel_rfl) ?_
      repeat (go_big_quiet_step (first|(fail)))
      refine wpQuiet_nil ?_;rintro _ ⟨X,rfl⟩;obtain⟨w5,hw5⟩:∃w5,w5=under (wr.alloc (UT #[UM US 1,UN ⟨tx.toArray⟩,UM US id] 36)) X:=⟨_,rfl⟩;have bo:ac wr w5:=by rw[hw5];exact((ac.refl _).alloc _).under X
      have d1:w5.cell? ⟨wr.1.size,1,UW⟩=UX (UN ⟨tx.toArray⟩):=by rw[hw5];go_simp
      have d2:w5.cell? ⟨wr.1.size,2,UW⟩=UX (UM US id):=by rw[hw5];go_simp
      rw[<-hw5];haveI:af wr.1.size w5:=af.of (cM _ _ d1);have eW:=aa (aE bo HO.out);have cL:=aa (HU.out.trans bo);have Bb:=cL.out.size;clear hw5 bo c0 c1 c2;go_wp2_with fail;go_region_law (refine cH rfl (.tmp 70) (.tmp 79) 37 rfl w.1.size 36 i0 (.agg #[.int .i64 0,.string ⟨#[]⟩,.int .i64 0]) 3 32 Tryz.underlying37 hi hz0 hz1 hz2 rfl (by decide) (.slice A8 O.length c8) O.length _ rfl (eK (eW.out.alloc (.cells #[.int .i64 1,.string sx,.int .i64 id] 36)) (ac.refl _).drew) ⟨w5.1.size,0,none⟩ 1 1 [.int .i64 1,.string sx,.int .i64 id] rfl rfl (eA w5 _ _ _ 36 _ rfl) (cN 1 id _) (by unfold maxLen;omega) (by omega) (by simp<;>omega) ?_;intro v' w6 hown' hgrow _;have hgr:=aW (ac.gb (uZ:ac w5 (w5.alloc (.cells #[.int .i64 1,.string sx,.int .i64 id] 36)).drew) (Value.slice A8 O.length c8).ownBlock) hgrow (λg e=>Or.inl e);have nv:some wr.1.size≠(Value.slice A8 O.length c8).ownBlock:=λe=>(by have:=(HO.out.lt _ e.symm).2;omega);have g1:=(dd hgr (p:=⟨wr.1.size,1,none⟩) (af.lt inferInstance) nv).trans d1;haveI:af wr.1.size w6:=af.of (cM _ _ g1))
      all_goals
       have hrel:=lx.out w6 v' (by rw[lu.out,bE,List.length_append,List.length_singleton,<-hsl,be];exact hown') (cL.out.grown hgr (λg hg=>aG eW.out g hg));rw[HW.out]at hrel;have bP:=aa hrel;clear hrel hown' hgrow hgr nv;go_wp2
       first|exact⟨bP.out,by simp[intOf];omega⟩|(refine⟨?_,by simp[intOf];omega⟩;(repeat apply Exists.intro);exact⟨bP.out,rfl⟩)
     have z1:¬((0:Int))<(b:Int)-(m:Int):=by omega
     have cU:=ls.out;rw[if_neg pc,List.append_nil]at cU;have lu:=aa cU;clear hp hq cU;go_wp2_with fail
     first|refine aM (by kernel_rfl) (by kernel_rfl) ?_|refine aQ (by kernel_rfl) (by kernel_rfl) ?_
     repeat (go_big_quiet_step (first|(fail)))
     refine wpQuiet_nil ?_;rintro _ ⟨X,rfl⟩;obtain⟨w5,hw5⟩:∃w5,w5=under (wr.alloc (UT #[UM US 1,UN ⟨tx.toArray⟩,UM US id] 36)) X:=⟨_,rfl⟩;have bo:ac wr w5:=by rw[hw5];exact((ac.refl _).alloc _).under X
     have d1:w5.cell? ⟨wr.1.size,1,UW⟩=UX (UN ⟨tx.toArray⟩):=by rw[hw5];go_simp
     rw[<-hw5];haveI:af wr.1.size w5:=af.of (cM _ _ d1);have hrel:=lx.out w5 (UO A8 O.length c8) (by rw[lu.out];exact aE bo HO.out) (HU.out.trans bo);rw[HW.out]at hrel;have bP:=aa hrel;clear hrel hw5 bo c0 c1 c2;go_wp2
     first|exact⟨bP.out,by simp[intOf];omega⟩|(refine⟨?_,by simp[intOf];omega⟩;(repeat apply Exists.intro);exact⟨bP.out,rfl⟩)
    by_cases Ta:m+tx.length<b
    ·have za:¬(a:Int)<(m:Int):=by omega
     have zb:(m:Int)+(tx.length:Int)<(b:Int):=by omega
     have e3:(m:Int)+(tx.length:Int)-(m:Int)=(tx.length:Int):=by omega
     have e1:(a:Int)-(m:Int)=(p:Int):=by omega
     by_cases pc:p<q
     ·have hq0:q=tx.length:=by omega
      subst hq0;have qi:tx.length<=tx.length:=by omega
      have z1:((p:Nat):Int)<((tx.length:Nat):Int):=by omega
      have z2:(0:Int)<=((p:Nat):Int):=by omega
      have z3:((p:Nat):Int)<=((tx.length:Nat):Int):=by omega
      have z4:((tx.length:Nat):Int)<=(tx.length:Int):=by omega
      have z0:(0:Int)<((tx.length:Nat):Int):=by omega
      obtain⟨sx,hsx⟩:∃sx:ByteArray,(⟨tx.toArray⟩:ByteArray).extract p tx.length=sx:=⟨_,rfl⟩;have hsl:sx.1.1=(tx.take tx.length).drop p:=by rw[<-hsx,Lib.extract_data,List.drop_take]
      have cU:=ls.out;rw[if_pos pc]at cU;have lu:=aa cU;clear hp hq cU;go_wp2_with fail
      first|refine aM (by kernel_rfl) (by kernel_rfl) ?_|refine aQ (by kernel_rfl) (by kernel_rfl) ?_
      repeat (go_big_quiet_step (first|(fail)))
      refine wpQuiet_nil ?_;rintro _ ⟨X,rfl⟩;obtain⟨w5,hw5⟩:∃w5,w5=under (wr.alloc (UT #[UM US 1,UN ⟨tx.toArray⟩,UM US id] 36)) X:=⟨_,rfl⟩;have bo:ac wr w5:=by rw[hw5];exact((ac.refl _).alloc _).under X
      have d1:w5.cell? ⟨wr.1.size,1,UW⟩=UX (UN ⟨tx.toArray⟩):=by rw[hw5];go_simp
      have d2:w5.cell? ⟨wr.1.size,2,UW⟩=UX (UM US id):=by rw[hw5];go_simp
      rw[<-hw5];haveI:af wr.1.size w5:=af.of (cM _ _ d1);have eW:=aa (aE bo HO.out);have cL:=aa (HU.out.trans bo);have Bb:=cL.out.size;clear hw5 bo c0 c1 c2;go_wp2_with fail;go_region_law (refine cH rfl (.tmp 70) (.tmp 79) 37 rfl w.1.size 36 i0 (.agg #[.int .i64 0,.string ⟨#[]⟩,.int .i64 0]) 3 32 Tryz.underlying37 hi hz0 hz1 hz2 rfl (by decide) (.slice A8 O.length c8) O.length _ rfl (eK (eW.out.alloc (.cells #[.int .i64 1,.string sx,.int .i64 id] 36)) (ac.refl _).drew) ⟨w5.1.size,0,none⟩ 1 1 [.int .i64 1,.string sx,.int .i64 id] rfl rfl (eA w5 _ _ _ 36 _ rfl) (cN 1 id _) (by unfold maxLen;omega) (by omega) (by simp<;>omega) ?_;intro v' w6 hown' hgrow _;have hgr:=aW (ac.gb (uZ:ac w5 (w5.alloc (.cells #[.int .i64 1,.string sx,.int .i64 id] 36)).drew) (Value.slice A8 O.length c8).ownBlock) hgrow (λg e=>Or.inl e);have nv:some wr.1.size≠(Value.slice A8 O.length c8).ownBlock:=λe=>(by have:=(HO.out.lt _ e.symm).2;omega);have g1:=(dd hgr (p:=⟨wr.1.size,1,none⟩) (af.lt inferInstance) nv).trans d1;haveI:af wr.1.size w6:=af.of (cM _ _ g1))
      all_goals
       have hrel:=lx.out w6 v' (by rw[lu.out,bE,List.length_append,List.length_singleton,<-hsl,be];exact hown') (cL.out.grown hgr (λg hg=>aG eW.out g hg));rw[HW.out]at hrel;have bP:=aa hrel;clear hrel hown' hgrow hgr nv;go_wp2
       first|exact⟨bP.out,by simp[intOf];omega⟩|(refine⟨?_,by simp[intOf];omega⟩;(repeat apply Exists.intro);exact⟨bP.out,rfl⟩)
     clear e1;have z1:¬((a:Int)-(m:Int))<(tx.length:Int):=by omega
     have cU:=ls.out;rw[if_neg pc,List.append_nil]at cU;have lu:=aa cU;clear hp hq cU;go_wp2_with fail
     first|refine aM (by kernel_rfl) (by kernel_rfl) ?_|refine aQ (by kernel_rfl) (by kernel_rfl) ?_
     repeat (go_big_quiet_step (first|(fail)))
     refine wpQuiet_nil ?_;rintro _ ⟨X,rfl⟩;obtain⟨w5,hw5⟩:∃w5,w5=under (wr.alloc (UT #[UM US 1,UN ⟨tx.toArray⟩,UM US id] 36)) X:=⟨_,rfl⟩;have bo:ac wr w5:=by rw[hw5];exact((ac.refl _).alloc _).under X
     have d1:w5.cell? ⟨wr.1.size,1,UW⟩=UX (UN ⟨tx.toArray⟩):=by rw[hw5];go_simp
     rw[<-hw5];haveI:af wr.1.size w5:=af.of (cM _ _ d1);have hrel:=lx.out w5 (UO A8 O.length c8) (by rw[lu.out];exact aE bo HO.out) (HU.out.trans bo);rw[HW.out]at hrel;have bP:=aa hrel;clear hrel hw5 bo c0 c1 c2;go_wp2
     first|exact⟨bP.out,by simp[intOf];omega⟩|(refine⟨?_,by simp[intOf];omega⟩;(repeat apply Exists.intro);exact⟨bP.out,rfl⟩)
    have za:¬(a:Int)<(m:Int):=by omega
    have zb:¬(m:Int)+(tx.length:Int)<(b:Int):=by omega
    have e1:(a:Int)-(m:Int)=(p:Int):=by omega
    by_cases pc:p<q
    ·have e2:(b:Int)-(m:Int)=(q:Int):=by omega
     have qi:q<=tx.length:=by omega
     have z1:((p:Nat):Int)<((q:Nat):Int):=by omega
     have z2:(0:Int)<=((p:Nat):Int):=by omega
     have z3:((p:Nat):Int)<=((q:Nat):Int):=by omega
     have z4:((q:Nat):Int)<=(tx.length:Int):=by omega
     have z0:(0:Int)<((q:Nat):Int):=by omega
     obtain⟨sx,hsx⟩:∃sx:ByteArray,(⟨tx.toArray⟩:ByteArray).extract p q=sx:=⟨_,rfl⟩;have hsl:sx.1.1=(tx.take q).drop p:=by rw[<-hsx,Lib.extract_data,List.drop_take]
     have cU:=ls.out;rw[if_pos pc]at cU;have lu:=aa cU;clear hp hq cU;go_wp2_with fail
     first|refine aM (by kernel_rfl) (by kernel_rfl) ?_|refine aQ (by kernel_rfl) (by kernel_rfl) ?_
     repeat (go_big_quiet_step (first|(fail)))
     refine wpQuiet_nil ?_;rintro _ ⟨X,rfl⟩;obtain⟨w5,hw5⟩:∃w5,w5=under (wr.alloc (UT #[UM US 1,UN ⟨tx.toArray⟩,UM US id] 36)) X:=⟨_,rfl⟩;have bo:ac wr w5:=by rw[hw5];exact((ac.refl _).alloc _).under X
     have d1:w5.cell? ⟨wr.1.size,1,UW⟩=UX (UN ⟨tx.toArray⟩):=by rw[hw5];go_simp
     have d2:w5.cell? ⟨wr.1.size,2,UW⟩=UX (UM US id):=by rw[hw5];go_simp
     rw[<-hw5];haveI:af wr.1.size w5:=af.of (cM _ _ d1);have eW:=aa (aE bo HO.out);have cL:=aa (HU.out.trans bo);have Bb:=cL.out.size;clear hw5 bo c0 c1 c2;go_wp2_with fail;go_region_law (refine cH rfl (.tmp 70) (.tmp 79) 37 rfl w.1.size 36 i0 (.agg #[.int .i64 0,.string ⟨#[]⟩,.int .i64 0]) 3 32 Tryz.underlying37 hi hz0 hz1 hz2 rfl (by decide) (.slice A8 O.length c8) O.length _ rfl (eK (eW.out.alloc (.cells #[.int .i64 1,.string sx,.int .i64 id] 36)) (ac.refl _).drew) ⟨w5.1.size,0,none⟩ 1 1 [.int .i64 1,.string sx,.int .i64 id] rfl rfl (eA w5 _ _ _ 36 _ rfl) (cN 1 id _) (by unfold maxLen;omega) (by omega) (by simp<;>omega) ?_;intro v' w6 hown' hgrow _;have hgr:=aW (ac.gb (uZ:ac w5 (w5.alloc (.cells #[.int .i64 1,.string sx,.int .i64 id] 36)).drew) (Value.slice A8 O.length c8).ownBlock) hgrow (λg e=>Or.inl e);have nv:some wr.1.size≠(Value.slice A8 O.length c8).ownBlock:=λe=>(by have:=(HO.out.lt _ e.symm).2;omega);have g1:=(dd hgr (p:=⟨wr.1.size,1,none⟩) (af.lt inferInstance) nv).trans d1;haveI:af wr.1.size w6:=af.of (cM _ _ g1))
     all_goals
      have hrel:=lx.out w6 v' (by rw[lu.out,bE,List.length_append,List.length_singleton,<-hsl,be];exact hown') (cL.out.grown hgr (λg hg=>aG eW.out g hg));rw[HW.out]at hrel;have bP:=aa hrel;clear hrel hown' hgrow hgr nv;go_wp2
      first|exact⟨bP.out,by simp[intOf];omega⟩|(refine⟨?_,by simp[intOf];omega⟩;(repeat apply Exists.intro);exact⟨bP.out,rfl⟩)
    clear e1;have z1:¬((a:Int)-(m:Int))<(b:Int)-(m:Int):=by omega
    have cU:=ls.out;rw[if_neg pc,List.append_nil]at cU;have lu:=aa cU;clear hp hq cU;go_wp2_with fail
    first|refine aM (by kernel_rfl) (by kernel_rfl) ?_|refine aQ (by kernel_rfl) (by kernel_rfl) ?_
    repeat (go_big_quiet_step (first|(fail)))
    refine wpQuiet_nil ?_;rintro _ ⟨X,rfl⟩;obtain⟨w5,hw5⟩:∃w5,w5=under (wr.alloc (UT #[UM US 1,UN ⟨tx.toArray⟩,UM US id] 36)) X:=⟨_,rfl⟩;have bo:ac wr w5:=by rw[hw5];exact((ac.refl _).alloc _).under X
    have d1:w5.cell? ⟨wr.1.size,1,UW⟩=UX (UN ⟨tx.toArray⟩):=by rw[hw5];go_simp
    rw[<-hw5];haveI:af wr.1.size w5:=af.of (cM _ _ d1);have hrel:=lx.out w5 (UO A8 O.length c8) (by rw[lu.out];exact aE bo HO.out) (HU.out.trans bo);rw[HW.out]at hrel;have bP:=aa hrel;clear hrel hw5 bo c0 c1 c2;go_wp2
    first|exact⟨bP.out,by simp[intOf];omega⟩|(refine⟨?_,by simp[intOf];omega⟩;(repeat apply Exists.intro);exact⟨bP.out,rfl⟩)
   have zk:(kd==1)=false:=by simpa using du
   have Rb:(kd != 1)=true:=by simpa using du
   have hw1:St.ay (f.take (k+1))=m+1:=by rw[rW.out];unfold St.a7;rw[if_neg du]
   have HW:=aa hw1
   have hs1:St.br a b m [(kd,tx,id)]=if a<=m/\m<b then[(kd,tx,id)]else[]:=by
    simp only[St.br,if_neg du,List.append_nil]
   have ls:=HST.out;rw[hs1]at ls;have AW:m+1<=5000000000000000000:=by omega
   by_cases hin:a<=m/\m<b
   ·rw[if_pos hin]at ls;have lu:=aa ls;have z1:(a:Int)<=(m:Int):=by omega
    have z2:(m:Int)<(b:Int):=by omega
    clear hs1 ls du fM hw1;go_wp2_with (at_builtin;refine wpList_append_own _ rfl _ _ 37 rfl w.1.size 36 i0 (.agg #[.int .i64 0,.string ⟨#[]⟩,.int .i64 0]) 3 32 Tryz.underlying37 hi hz0 hz1 hz2 rfl (by decide) (.slice A8 O.length c8) O.length _ rfl ((HO.out.alloc _).alloc _) _ 1 1 [.int .i64 kd,.string ⟨tx.toArray⟩,.int .i64 id] rfl rfl ?_ (cN _ _ _) (by unfold maxLen;omega) (by omega) ?_ ?_)
    ·exact eA _ _ _ _ _ _ (by simp)
    ·simp;omega
    intro v' w4 hown' hgrow _;have hrel:=lx.out w4 v' (by rw[lu.out,bE,List.length_append,List.length_singleton];exact hown') (((HU.out.alloc _).alloc _).grown hgrow (λg hg=>aG HO.out g hg));rw[HW.out]at hrel;have bP:=aa hrel;clear hown' hgrow hrel;go_wp2;exact⟨by simpa using bP.out,by simp[intOf];omega⟩
   rw[if_neg hin,List.append_nil]at ls;have lu:=aa ls;have hrel:=λW (hW:ac wr W)=>lx.out W (UO A8 O.length c8) (by rw[lu.out];exact aE hW HO.out) (HU.out.trans hW)
   rw[HW.out]at hrel;have bP:=aa hrel;clear hs1 ls du fM hw1 hrel
   by_cases q1:a<=m
   ·have z1:(a:Int)<=(m:Int):=by omega
    have z2:¬(m:Int)<(b:Int):=by omega
    go_wp2;exact⟨bP.out _ uZ,by simp[intOf];omega⟩
   have z1:¬(a:Int)<=(m:Int):=by omega
   go_wp2;exact⟨bP.out _ uZ,by simp[intOf];omega⟩
  have hkn:k=n:=by omega
  subst hkn;have yl:f.take k=f:=List.take_of_length_le (by omega);rw[yl]at HO |-;clear hlt yl;go_wp2;refine bodyPost_ret (v:=.tuple #[_,.bool true]) (by simp[results,Tryz.results34,go_sem];rfl) rfl ?_;exact⟨_,rfl,HO.out,HU.out⟩
