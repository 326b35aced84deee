/- The contract of the reference's Slice between two positions: what it gives is. -/
import Derived.Test.YthoemdibbldndaaGreatDoorGB
import Derived.Deep.RegionHeld3
import Derived.OrdersHeld
set_option linter.all false
set_option maxHeartbeats 0
set_option maxRecDepth 20000
open Go.Value renaming int->Yh,string->Yi,slice->Yj
open Go.IntKind renaming i64->Yn
open Go.Obj renaming cells->Yo
open Option renaming none->Yq,some->Yr
namespace Go.Proofs.YthoemdibbldndaaGreatDoor
open Go.RowKit
theorem Iv(a b:Nat)(f:List St.It)(k:Nat)(h:k<f.length):St.aY a b 0 (f.take (k+1))=St.aY a b 0 (f.take k)++St.aY a b (St.aA (f.take k)) [f[k]]:=by
 rw[List.take_add_one,List.getElem?_eq_getElem h];have:=St.zux a b (f.take k) f[k] 0
 rw[Nat.zero_add]at this;exact this
theorem KK(a b:Nat)(f:List St.It):∀at',(St.aY a b at' f).length<=f.length:=by
 induction f with
 | nil=>intro at';simp[St.aY]
 | cons x f ih=>
  intro at';rw[St.aY,List.length_append];have:=ih (at'+St.aZ x)
  have h1:(if x.1=1 then(if max a at' - at'<min b (at'+x.2.1.length)-at' then[((1:Int),(x.2.1.take (min b (at'+x.2.1.length)-at')).drop (max a at' - at'),x.2.2)]else[])else(if a<=at'/\at'<b then[x]else[])).length<=1:=by
   repeat' split
   all_goals simp
  simp only[List.length_cons];omega
def I4(w:World)(a b:Nat)(f:List St.It)(n:Nat)(s8 s9 KC:Value)(wr:World):Prop:=
 ∃k:Nat,k<=n/\KC=Yh Yn k/\s9=Yh Yn (St.aA (f.take k):Nat)/\wr.ownsRow w.1.size 36 3 s8 (St.aY a b 0 (f.take k)).length (ak (St.aY a b 0 (f.take k)))/\ac w wr
theorem sl(A:Option Addr)(n c:Nat)(f:List St.It)(a b:Nat)(w:World)(hn:f.length=n)(h:aH w A f)(hl:n<=100000)(ht:aV f<=4611686018427387904)(hab:a<=b)(hbl:b<=St.aA f) :
  Calls Tryz.prog 34 #[Yj A n c,Yh Yn a,Yh Yn b] w λe w'=>∃v,e=.returned (.tuple #[v,.bool true])/\w'.ownsRow w.1.size 36 3 v (St.aY a b 0 f).length (ak (St.aY a b 0 f))/\ac w w':=by
 have H:=aa h;have HN:=aa hn;have hle:=aa (la A n c f w hn h (by omega) ht);have hll:=gM f;have BZ:=aa (show St.aA f<=4611686018427387904+100000 by omega);obtain⟨i0,hi,hz0,hz1,hz2⟩:=info_parts dH;have y1:¬(a:Int)<0:=by omega
 have y2:¬(b:Int)<(a:Int):=by omega
 have y3:¬((St.aA f:Nat):Int)<(b:Int):=by omega
 have y4:¬St.aA f<b:=by omega
 clear h hn hll;go_enter Tryz.func34,Tryz.ntmps34;go_wp2_with fail;refine hle.out.mono ?_;rintro e w' ⟨rfl,rfl⟩;go_wp2_with fail;go_loopw [8,9,29] (λs8 s9 KC wr=>I4 w a b f n s8 s9 KC wr) (λ_ _ KC _=>n+1-(intOf KC).toNat)
 case atStart=>exact⟨0,by omega,rfl,rfl,World.ownsRow_nil _ _ _ _,ac.refl _⟩
 case round=>
  obtain⟨k,hk,rfl,rfl,hown,hu⟩:=hrel;have HU:=aa hu;have HO:=aa hown;have hsz:=hu.size;clear hu hown y1 y2 y3 hle;have hN:=HN.out
  by_cases hlt:k<n
  ·have aI:k<f.length:=by omega
   obtain⟨g,off,rfl,hg,hc⟩:=(H.out.ai HU.out) (by omega);obtain⟨c0,c1,c2⟩:=hc k aI;have hst:=Iv a b f k aI;have hlk:=p7 f k aI
   have eS:St.aA (f.take (k+1))<=St.aA f:=by
    have:St.aA f=St.aA (f.take (k+1))+St.aA (f.drop (k+1)):=by
     conv=>lhs;rw[<-List.take_append_drop (k+1) f]
     unfold St.aA;rw[List.map_append,List.sum_append]
    omega
   have hsl:=KK a b (f.take k) 0;have Wa:=BZ.out;have hx1:=jw f k aI;have hx2:=fK f (k+1);generalize f[k]=x at c0 c1 c2 hst hlk hx1;obtain⟨kd,tx,id⟩:=x;simp only at c0 c1 c2 hx1;generalize hO:St.aY a b 0 (f.take k)=O at HO hst hsl;generalize St.aA (f.take k)=m at hst hlk |-;haveI:af g wr:=af.of hg;obtain⟨A8,c8,rfl,_,_,hA8⟩:=aR HO.out;have NS:O.length<=100000:=by simp at hsl;omega
   have htl:(⟨tx.toArray⟩:ByteArray).size=tx.length:=by show tx.toArray.size=_;simp
   have V9:=HO.out.1;have sX:=aa hlk;have HST:=aa hst;have RL:∀W v,W.ownsRow w.1.size 36 3 v (St.aY a b 0 (f.take (k+1))).length (ak (St.aY a b 0 (f.take (k+1))))->ac w W->I4 w a b f n v (Yh Yn (St.aA (f.take (k+1)):Nat)) (Yh Yn ((k:Int)+1)) W:=λW v ho hu=>⟨k+1,by omega,congrArg (Yh Yn) (by omega),rfl,ho,hu⟩
   have lW:=aa RL;clear hc aI hsl hO hst hlk RL V9
   by_cases cN:kd=1
   ·subst cN;have hw1:St.aA (f.take (k+1))=m+tx.length:=by rw[sX.out];simp[St.aZ]
    have hmb:m+tx.length<=4611686018427487904:=by omega
    have HW:=aa hw1;obtain⟨p,hp⟩:∃p,p=max a m-m:=⟨_,rfl⟩;obtain⟨q,hq⟩:∃q,q=min b (m+tx.length)-m:=⟨_,rfl⟩;have Xb:=hab;have hb':b<=4611686018427487904:=by omega
    have e1:max (a:Int) (m:Int)-(m:Int)=(p:Int):=by omega
    have hs1:St.aY a b m [((1:Int),tx,id)]=if p<q then[(1,(tx.take q).drop p,id)]else[]:=by
     simp only[St.aY,if_true,List.append_nil,<-hp,<-hq]
    have lU:=aa (HST.out.trans (by rw[hs1]));clear hs1 hw1 eS
    by_cases XG:a<m
    ·by_cases Wj:m+tx.length<b
     ·have za:(a:Int)<(m:Int):=by omega
      have zb:(m:Int)+(tx.length:Int)<(b:Int):=by omega
      have e3:(m:Int)+(tx.length:Int)-(m:Int)=(tx.length:Int):=by omega
      have hp0:p=0:=by omega
      subst hp0
      by_cases mm:0<q
      ·have hq0:q=tx.length:=by omega
       subst hq0;have qZ:tx.length<=tx.length:=by omega
       have z1:((0:Nat):Int)<((tx.length:Nat):Int):=by omega
       have z2:(0:Int)<=((0:Nat):Int):=by omega
       have z3:((0:Nat):Int)<=((tx.length:Nat):Int):=by omega
       have z4:((tx.length:Nat):Int)<=(tx.length:Int):=by omega
       have z0:(0:Int)<((tx.length:Nat):Int):=by omega
       obtain⟨sx,pi⟩:∃sx:ByteArray,(⟨tx.toArray⟩:ByteArray).extract 0 tx.length=sx:=⟨_,rfl⟩;have hsl:sx.1.1=(tx.take tx.length).drop 0:=by rw[<-pi,Lib.extract_data,List.drop_take]
       have dy:=lU.out;rw[if_pos mm]at dy;have lV:=aa dy;clear hp hq dy;go_wp2_with fail
       first|refine aP (by kernel_rfl) (by kernel_rfl) ?_|refine aS (by kernel_rfl) (by kernel_rfl) ?_
       repeat (go_big_quiet_step (first|(fail)))
       refine wpQuiet_nil ?_;rintro _ ⟨X,rfl⟩;obtain⟨w5,hw5⟩:∃w5,w5=under (wr.alloc (Yo #[Yh Yn 1,Yi ⟨tx.toArray⟩,Yh Yn id] 36)) X:=⟨_,rfl⟩;have bg:ac wr w5:=by rw[hw5];exact((ac.refl _).alloc _).under X
       have d1:w5.cell? ⟨wr.1.size,1,Yq⟩=Yr (Yi ⟨tx.toArray⟩):=by rw[hw5];go_simp
       have d2:w5.cell? ⟨wr.1.size,2,Yq⟩=Yr (Yh Yn id):=by rw[hw5];go_simp
       rw[<-hw5];haveI:af wr.1.size w5:=af.of (cx _ _ d1);have eW:=aa (aF bg HO.out);have dh:=aa (HU.out.trans bg);have yK:=dh.out.size;clear hw5 bg c0 c1 c2;go_wp2_with fail;go_region_law (refine cF rfl (.tmp 70) (.tmp 79) 37 rfl w.1.size 36 i0 (.agg #[.int .i64 0,.string ⟨#[]⟩,.int .i64 0]) 3 32 Tryz.underlying37 hi hz0 hz1 hz2 rfl (by decide) (.slice A8 O.length c8) O.length _ rfl (dV (eW.out.alloc (.cells #[.int .i64 1,.string sx,.int .i64 id] 36)) (ac.refl _).drew) ⟨w5.1.size,0,none⟩ 1 1 [.int .i64 1,.string sx,.int .i64 id] rfl rfl (dW w5 _ _ _ 36 _ rfl) (cL 1 id _) (by unfold maxLen;omega) (by omega) (by simp<;>omega) ?_;intro v' w6 hown' hgrow _;have hgr:=aO (ac.gb (uZ:ac w5 (w5.alloc (.cells #[.int .i64 1,.string sx,.int .i64 id] 36)).drew) (Value.slice A8 O.length c8).ownBlock) hgrow (λg e=>Or.inl e);have n4:some wr.1.size≠(Value.slice A8 O.length c8).ownBlock:=λe=>(by have:=(HO.out.lt _ e.symm).2;omega);have g1:=(dA hgr (p:=⟨wr.1.size,1,none⟩) (af.lt inferInstance) n4).trans d1;haveI:af wr.1.size w6:=af.of (cx _ _ g1))
       all_goals
        have hrel:=lW.out w6 v' (by rw[lV.out,bD,List.length_append,List.length_singleton,<-hsl,bn];exact hown') (dh.out.grown hgr (λg hg=>aB eW.out g hg));rw[HW.out]at hrel;have br:=aa hrel;clear hrel hown' hgrow hgr n4;go_wp2
        first|exact⟨br.out,by simp[intOf];omega⟩|(refine⟨?_,by simp[intOf];omega⟩;(repeat apply Exists.intro);exact⟨br.out,rfl⟩)
      have z1:¬((0:Int))<(tx.length:Int):=by omega
      have dy:=lU.out;rw[if_neg mm,List.append_nil]at dy;have lV:=aa dy;clear hp hq dy;go_wp2_with fail
      first|refine aP (by kernel_rfl) (by kernel_rfl) ?_|refine aS (by kernel_rfl) (by kernel_rfl) ?_
      repeat (go_big_quiet_step (first|(fail)))
      refine wpQuiet_nil ?_;rintro _ ⟨X,rfl⟩;obtain⟨w5,hw5⟩:∃w5,w5=under (wr.alloc (Yo #[Yh Yn 1,Yi ⟨tx.toArray⟩,Yh Yn id] 36)) X:=⟨_,rfl⟩;have bg:ac wr w5:=by rw[hw5];exact((ac.refl _).alloc _).under X
      have d1:w5.cell? ⟨wr.1.size,1,Yq⟩=Yr (Yi ⟨tx.toArray⟩):=by rw[hw5];go_simp
      rw[<-hw5];haveI:af wr.1.size w5:=af.of (cx _ _ d1);have hrel:=lW.out w5 (Yj A8 O.length c8) (by rw[lV.out];exact aF bg HO.out) (HU.out.trans bg);rw[HW.out]at hrel;have br:=aa hrel;clear hrel hw5 bg c0 c1 c2;go_wp2
      first|exact⟨br.out,by simp[intOf];omega⟩|(refine⟨?_,by simp[intOf];omega⟩;(repeat apply Exists.intro);exact⟨br.out,rfl⟩)
     have za:(a:Int)<(m:Int):=by omega
     have zb:¬(m:Int)+(tx.length:Int)<(b:Int):=by omega
     have hp0:p=0:=by omega
     subst hp0
     by_cases mm:0<q
     ·have e2:(b:Int)-(m:Int)=(q:Int):=by omega
      have qZ:q<=tx.length:=by omega
      have z1:((0:Nat):Int)<((q:Nat):Int):=by omega
      have z2:(0:Int)<=((0:Nat):Int):=by omega
      have z3:((0:Nat):Int)<=((q:Nat):Int):=by omega
      have z4:((q:Nat):Int)<=(tx.length:Int):=by omega
      have z0:(0:Int)<((q:Nat):Int):=by omega
      obtain⟨sx,pi⟩:∃sx:ByteArray,(⟨tx.toArray⟩:ByteArray).extract 0 q=sx:=⟨_,rfl⟩;have hsl:sx.1.1=(tx.take q).drop 0:=by rw[<-pi,Lib.extract_data,List.drop_take]
      have dy:=lU.out;rw[if_pos mm]at dy;have lV:=aa dy;clear hp hq dy;go_wp2_with fail
      first|refine aP (by kernel_rfl) (by kernel_rfl) ?_|refine aS (by kernel_rfl) (by kernel_rfl) ?_
      repeat (go_big_quiet_step (first|(fail)))
      refine wpQuiet_nil ?_;rintro _ ⟨X,rfl⟩;obtain⟨w5,hw5⟩:∃w5,w5=under (wr.alloc (Yo #[Yh Yn 1,Yi ⟨tx.toArray⟩,Yh Yn id] 36)) X:=⟨_,rfl⟩;have bg:ac wr w5:=by rw[hw5];exact((ac.refl _).alloc _).under X
      have d1:w5.cell? ⟨wr.1.size,1,Yq⟩=Yr (Yi ⟨tx.toArray⟩):=by rw[hw5];go_simp
      have d2:w5.cell? ⟨wr.1.size,2,Yq⟩=Yr (Yh Yn id):=by rw[hw5];go_simp
      rw[<-hw5];haveI:af wr.1.size w5:=af.of (cx _ _ d1);have eW:=aa (aF bg HO.out);have dh:=aa (HU.out.trans bg);have yK:=dh.out.size;clear hw5 bg c0 c1 c2;go_wp2_with fail;go_region_law (refine cF rfl (.tmp 70) (.tmp 79) 37 rfl w.1.size 36 i0 (.agg #[.int .i64 0,.string ⟨#[]⟩,.int .i64 0]) 3 32 Tryz.underlying37 hi hz0 hz1 hz2 rfl (by decide) (.slice A8 O.length c8) O.length _ rfl (dV (eW.out.alloc (.cells #[.int .i64 1,.string sx,.int .i64 id] 36)) (ac.refl _).drew) ⟨w5.1.size,0,none⟩ 1 1 [.int .i64 1,.string sx,.int .i64 id] rfl rfl (dW w5 _ _ _ 36 _ rfl) (cL 1 id _) (by unfold maxLen;omega) (by omega) (by simp<;>omega) ?_;intro v' w6 hown' hgrow _;have hgr:=aO (ac.gb (uZ:ac w5 (w5.alloc (.cells #[.int .i64 1,.string sx,.int .i64 id] 36)).drew) (Value.slice A8 O.length c8).ownBlock) hgrow (λg e=>Or.inl e);have n4:some wr.1.size≠(Value.slice A8 O.length c8).ownBlock:=λe=>(by have:=(HO.out.lt _ e.symm).2;omega);have g1:=(dA hgr (p:=⟨wr.1.size,1,none⟩) (af.lt inferInstance) n4).trans d1;haveI:af wr.1.size w6:=af.of (cx _ _ g1))
      all_goals
       have hrel:=lW.out w6 v' (by rw[lV.out,bD,List.length_append,List.length_singleton,<-hsl,bn];exact hown') (dh.out.grown hgr (λg hg=>aB eW.out g hg));rw[HW.out]at hrel;have br:=aa hrel;clear hrel hown' hgrow hgr n4;go_wp2
       first|exact⟨br.out,by simp[intOf];omega⟩|(refine⟨?_,by simp[intOf];omega⟩;(repeat apply Exists.intro);exact⟨br.out,rfl⟩)
     have z1:¬((0:Int))<(b:Int)-(m:Int):=by omega
     have dy:=lU.out;rw[if_neg mm,List.append_nil]at dy;have lV:=aa dy;clear hp hq dy;go_wp2_with fail
     first|refine aP (by kernel_rfl) (by kernel_rfl) ?_|refine aS (by kernel_rfl) (by kernel_rfl) ?_
     repeat (go_big_quiet_step (first|(fail)))
     refine wpQuiet_nil ?_;rintro _ ⟨X,rfl⟩;obtain⟨w5,hw5⟩:∃w5,w5=under (wr.alloc (Yo #[Yh Yn 1,Yi ⟨tx.toArray⟩,Yh Yn id] 36)) X:=⟨_,rfl⟩;have bg:ac wr w5:=by rw[hw5];exact((ac.refl _).alloc _).under X
     have d1:w5.cell? ⟨wr.1.size,1,Yq⟩=Yr (Yi ⟨tx.toArray⟩):=by rw[hw5];go_simp
     rw[<-hw5];haveI:af wr.1.size w5:=af.of (cx _ _ d1);have hrel:=lW.out w5 (Yj A8 O.length c8) (by rw[lV.out];exact aF bg HO.out) (HU.out.trans bg);rw[HW.out]at hrel;have br:=aa hrel;clear hrel hw5 bg c0 c1 c2;go_wp2
     first|exact⟨br.out,by simp[intOf];omega⟩|(refine⟨?_,by simp[intOf];omega⟩;(repeat apply Exists.intro);exact⟨br.out,rfl⟩)
    by_cases Wj:m+tx.length<b
    ·have za:¬(a:Int)<(m:Int):=by omega
     have zb:(m:Int)+(tx.length:Int)<(b:Int):=by omega
     have e3:(m:Int)+(tx.length:Int)-(m:Int)=(tx.length:Int):=by omega
     have e1:(a:Int)-(m:Int)=(p:Int):=by omega
     by_cases mm:p<q
     ·have hq0:q=tx.length:=by omega
      subst hq0;have qZ:tx.length<=tx.length:=by omega
      have z1:((p:Nat):Int)<((tx.length:Nat):Int):=by omega
      have z2:(0:Int)<=((p:Nat):Int):=by omega
      have z3:((p:Nat):Int)<=((tx.length:Nat):Int):=by omega
      have z4:((tx.length:Nat):Int)<=(tx.length:Int):=by omega
      have z0:(0:Int)<((tx.length:Nat):Int):=by omega
      obtain⟨sx,pi⟩:∃sx:ByteArray,(⟨tx.toArray⟩:ByteArray).extract p tx.length=sx:=⟨_,rfl⟩;have hsl:sx.1.1=(tx.take tx.length).drop p:=by rw[<-pi,Lib.extract_data,List.drop_take]
      have dy:=lU.out;rw[if_pos mm]at dy;have lV:=aa dy;clear hp hq dy;go_wp2_with fail
      first|refine aP (by kernel_rfl) (by kernel_rfl) ?_|refine aS (by kernel_rfl) (by kernel_rfl) ?_
      repeat (go_big_quiet_step (first|(fail)))
      refine wpQuiet_nil ?_;rintro _ ⟨X,rfl⟩;obtain⟨w5,hw5⟩:∃w5,w5=under (wr.alloc (Yo #[Yh Yn 1,Yi ⟨tx.toArray⟩,Yh Yn id] 36)) X:=⟨_,rfl⟩;have bg:ac wr w5:=by rw[hw5];exact((ac.refl _).alloc _).under X
      have d1:w5.cell? ⟨wr.1.size,1,Yq⟩=Yr (Yi ⟨tx.toArray⟩):=by rw[hw5];go_simp
      have d2:w5.cell? ⟨wr.1.size,2,Yq⟩=Yr (Yh Yn id):=by rw[hw5];go_simp
      rw[<-hw5];haveI:af wr.1.size w5:=af.of (cx _ _ d1);have eW:=aa (aF bg HO.out);have dh:=aa (HU.out.trans bg);have yK:=dh.out.size;clear hw5 bg c0 c1 c2;go_wp2_with fail;go_region_law (refine cF rfl (.tmp 70) (.tmp 79) 37 rfl w.1.size 36 i0 (.agg #[.int .i64 0,.string ⟨#[]⟩,.int .i64 0]) 3 32 Tryz.underlying37 hi hz0 hz1 hz2 rfl (by decide) (.slice A8 O.length c8) O.length _ rfl (dV (eW.out.alloc (.cells #[.int .i64 1,.string sx,.int .i64 id] 36)) (ac.refl _).drew) ⟨w5.1.size,0,none⟩ 1 1 [.int .i64 1,.string sx,.int .i64 id] rfl rfl (dW w5 _ _ _ 36 _ rfl) (cL 1 id _) (by unfold maxLen;omega) (by omega) (by simp<;>omega) ?_;intro v' w6 hown' hgrow _;have hgr:=aO (ac.gb (uZ:ac w5 (w5.alloc (.cells #[.int .i64 1,.string sx,.int .i64 id] 36)).drew) (Value.slice A8 O.length c8).ownBlock) hgrow (λg e=>Or.inl e);have n4:some wr.1.size≠(Value.slice A8 O.length c8).ownBlock:=λe=>(by have:=(HO.out.lt _ e.symm).2;omega);have g1:=(dA hgr (p:=⟨wr.1.size,1,none⟩) (af.lt inferInstance) n4).trans d1;haveI:af wr.1.size w6:=af.of (cx _ _ g1))
      all_goals
       have hrel:=lW.out w6 v' (by rw[lV.out,bD,List.length_append,List.length_singleton,<-hsl,bn];exact hown') (dh.out.grown hgr (λg hg=>aB eW.out g hg));rw[HW.out]at hrel;have br:=aa hrel;clear hrel hown' hgrow hgr n4;go_wp2
       first|exact⟨br.out,by simp[intOf];omega⟩|(refine⟨?_,by simp[intOf];omega⟩;(repeat apply Exists.intro);exact⟨br.out,rfl⟩)
     clear e1;have z1:¬((a:Int)-(m:Int))<(tx.length:Int):=by omega
     have dy:=lU.out;rw[if_neg mm,List.append_nil]at dy;have lV:=aa dy;clear hp hq dy;go_wp2_with fail
     first|refine aP (by kernel_rfl) (by kernel_rfl) ?_|refine aS (by kernel_rfl) (by kernel_rfl) ?_
     repeat (go_big_quiet_step (first|(fail)))
     refine wpQuiet_nil ?_;rintro _ ⟨X,rfl⟩;obtain⟨w5,hw5⟩:∃w5,w5=under (wr.alloc (Yo #[Yh Yn 1,Yi ⟨tx.toArray⟩,Yh Yn id] 36)) X:=⟨_,rfl⟩;have bg:ac wr w5:=by rw[hw5];exact((ac.refl _).alloc _).under X
     have d1:w5.cell? ⟨wr.1.size,1,Yq⟩=Yr (Yi ⟨tx.toArray⟩):=by rw[hw5];go_simp
     rw[<-hw5];haveI:af wr.1.size w5:=af.of (cx _ _ d1);have hrel:=lW.out w5 (Yj A8 O.length c8) (by rw[lV.out];exact aF bg HO.out) (HU.out.trans bg);rw[HW.out]at hrel;have br:=aa hrel;clear hrel hw5 bg c0 c1 c2;go_wp2
     first|exact⟨br.out,by simp[intOf];omega⟩|(refine⟨?_,by simp[intOf];omega⟩;(repeat apply Exists.intro);exact⟨br.out,rfl⟩)
    have za:¬(a:Int)<(m:Int):=by omega
    have zb:¬(m:Int)+(tx.length:Int)<(b:Int):=by omega
    have e1:(a:Int)-(m:Int)=(p:Int):=by omega
    by_cases mm:p<q
    ·have e2:(b:Int)-(m:Int)=(q:Int):=by omega
     have qZ:q<=tx.length:=by omega
     have z1:((p:Nat):Int)<((q:Nat):Int):=by omega
     have z2:(0:Int)<=((p:Nat):Int):=by omega
     have z3:((p:Nat):Int)<=((q:Nat):Int):=by omega
     have z4:((q:Nat):Int)<=(tx.length:Int):=by omega
     have z0:(0:Int)<((q:Nat):Int):=by omega
     obtain⟨sx,pi⟩:∃sx:ByteArray,(⟨tx.toArray⟩:ByteArray).extract p q=sx:=⟨_,rfl⟩;have hsl:sx.1.1=(tx.take q).drop p:=by rw[<-pi,Lib.extract_data,List.drop_take]
     have dy:=lU.out;rw[if_pos mm]at dy;have lV:=aa dy;clear hp hq dy;go_wp2_with fail
     first|refine aP (by kernel_rfl) (by kernel_rfl) ?_|refine aS (by kernel_rfl) (by kernel_rfl) ?_
     repeat (go_big_quiet_step (first|(fail)))
     refine wpQuiet_nil ?_;rintro _ ⟨X,rfl⟩;obtain⟨w5,hw5⟩:∃w5,w5=under (wr.alloc (Yo #[Yh Yn 1,Yi ⟨tx.toArray⟩,Yh Yn id] 36)) X:=⟨_,rfl⟩;have bg:ac wr w5:=by rw[hw5];exact((ac.refl _).alloc _).under X
     have d1:w5.cell? ⟨wr.1.size,1,Yq⟩=Yr (Yi ⟨tx.toArray⟩):=by rw[hw5];go_simp
     have d2:w5.cell? ⟨wr.1.size,2,Yq⟩=Yr (Yh Yn id):=by rw[hw5];go_simp
     rw[<-hw5];haveI:af wr.1.size w5:=af.of (cx _ _ d1);have eW:=aa (aF bg HO.out);have dh:=aa (HU.out.trans bg);have yK:=dh.out.size;clear hw5 bg c0 c1 c2;go_wp2_with fail;go_region_law (refine cF rfl (.tmp 70) (.tmp 79) 37 rfl w.1.size 36 i0 (.agg #[.int .i64 0,.string ⟨#[]⟩,.int .i64 0]) 3 32 Tryz.underlying37 hi hz0 hz1 hz2 rfl (by decide) (.slice A8 O.length c8) O.length _ rfl (dV (eW.out.alloc (.cells #[.int .i64 1,.string sx,.int .i64 id] 36)) (ac.refl _).drew) ⟨w5.1.size,0,none⟩ 1 1 [.int .i64 1,.string sx,.int .i64 id] rfl rfl (dW w5 _ _ _ 36 _ rfl) (cL 1 id _) (by unfold maxLen;omega) (by omega) (by simp<;>omega) ?_;intro v' w6 hown' hgrow _;have hgr:=aO (ac.gb (uZ:ac w5 (w5.alloc (.cells #[.int .i64 1,.string sx,.int .i64 id] 36)).drew) (Value.slice A8 O.length c8).ownBlock) hgrow (λg e=>Or.inl e);have n4:some wr.1.size≠(Value.slice A8 O.length c8).ownBlock:=λe=>(by have:=(HO.out.lt _ e.symm).2;omega);have g1:=(dA hgr (p:=⟨wr.1.size,1,none⟩) (af.lt inferInstance) n4).trans d1;haveI:af wr.1.size w6:=af.of (cx _ _ g1))
     all_goals
      have hrel:=lW.out w6 v' (by rw[lV.out,bD,List.length_append,List.length_singleton,<-hsl,bn];exact hown') (dh.out.grown hgr (λg hg=>aB eW.out g hg));rw[HW.out]at hrel;have br:=aa hrel;clear hrel hown' hgrow hgr n4;go_wp2
      first|exact⟨br.out,by simp[intOf];omega⟩|(refine⟨?_,by simp[intOf];omega⟩;(repeat apply Exists.intro);exact⟨br.out,rfl⟩)
    clear e1;have z1:¬((a:Int)-(m:Int))<(b:Int)-(m:Int):=by omega
    have dy:=lU.out;rw[if_neg mm,List.append_nil]at dy;have lV:=aa dy;clear hp hq dy;go_wp2_with fail
    first|refine aP (by kernel_rfl) (by kernel_rfl) ?_|refine aS (by kernel_rfl) (by kernel_rfl) ?_
    repeat (go_big_quiet_step (first|(fail)))
    refine wpQuiet_nil ?_;rintro _ ⟨X,rfl⟩;obtain⟨w5,hw5⟩:∃w5,w5=under (wr.alloc (Yo #[Yh Yn 1,Yi ⟨tx.toArray⟩,Yh Yn id] 36)) X:=⟨_,rfl⟩;have bg:ac wr w5:=by rw[hw5];exact((ac.refl _).alloc _).under X
    have d1:w5.cell? ⟨wr.1.size,1,Yq⟩=Yr (Yi ⟨tx.toArray⟩):=by rw[hw5];go_simp
    rw[<-hw5];haveI:af wr.1.size w5:=af.of (cx _ _ d1);have hrel:=lW.out w5 (Yj A8 O.length c8) (by rw[lV.out];exact aF bg HO.out) (HU.out.trans bg);rw[HW.out]at hrel;have br:=aa hrel;clear hrel hw5 bg c0 c1 c2;go_wp2
    first|exact⟨br.out,by simp[intOf];omega⟩|(refine⟨?_,by simp[intOf];omega⟩;(repeat apply Exists.intro);exact⟨br.out,rfl⟩)
   have zk:(kd==1)=false:=by simpa using cN
   have Ur:(kd != 1)=true:=by simpa using cN
   have hw1:St.aA (f.take (k+1))=m+1:=by rw[sX.out];unfold St.aZ;rw[if_neg cN]
   have HW:=aa hw1
   have hs1:St.aY a b m [(kd,tx,id)]=if a<=m/\m<b then[(kd,tx,id)]else[]:=by
    simp only[St.aY,if_neg cN,List.append_nil]
   have lU:=HST.out;rw[hs1]at lU;have CV:m+1<=5000000000000000000:=by omega
   by_cases hin:a<=m/\m<b
   ·rw[if_pos hin]at lU;have lV:=aa lU;have z1:(a:Int)<=(m:Int):=by omega
    have z2:(m:Int)<(b:Int):=by omega
    clear hs1 lU cN eS hw1;go_wp2_with (at_builtin;refine wpList_append_own _ rfl _ _ 37 rfl w.1.size 36 i0 (.agg #[.int .i64 0,.string ⟨#[]⟩,.int .i64 0]) 3 32 Tryz.underlying37 hi hz0 hz1 hz2 rfl (by decide) (.slice A8 O.length c8) O.length _ rfl ((HO.out.alloc _).alloc _) _ 1 1 [.int .i64 kd,.string ⟨tx.toArray⟩,.int .i64 id] rfl rfl ?_ (cL _ _ _) (by unfold maxLen;omega) (by omega) ?_ ?_)
    ·exact dW _ _ _ _ _ _ (by simp)
    ·simp;omega
    intro v' w4 hown' hgrow _;have hrel:=lW.out w4 v' (by rw[lV.out,bD,List.length_append,List.length_singleton];exact hown') (((HU.out.alloc _).alloc _).grown hgrow (λg hg=>aB HO.out g hg));rw[HW.out]at hrel;have br:=aa hrel;clear hown' hgrow hrel;go_wp2;exact⟨by simpa using br.out,by simp[intOf];omega⟩
   rw[if_neg hin,List.append_nil]at lU;have lV:=aa lU;have hrel:=λW (hW:ac wr W)=>lW.out W (Yj A8 O.length c8) (by rw[lV.out];exact aF hW HO.out) (HU.out.trans hW)
   rw[HW.out]at hrel;have br:=aa hrel;clear hs1 lU cN eS hw1 hrel
   by_cases q1:a<=m
   ·have z1:(a:Int)<=(m:Int):=by omega
    have z2:¬(m:Int)<(b:Int):=by omega
    go_wp2;exact⟨br.out _ uZ,by simp[intOf];omega⟩
   have z1:¬(a:Int)<=(m:Int):=by omega
   go_wp2;exact⟨br.out _ uZ,by simp[intOf];omega⟩
  have hkn:k=n:=by omega
  subst hkn;have uT:f.take k=f:=List.take_of_length_le (by omega);rw[uT]at HO |-;clear hlt uT;go_wp2;refine bodyPost_ret (v:=.tuple #[_,.bool true]) (by simp[results,Tryz.results34,go_sem];rfl) rfl ?_;exact⟨_,rfl,HO.out,HU.out⟩
