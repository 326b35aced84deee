/- The contract of the reference's Slice between two positions: what it gives is. -/
import Derived.Test.YthoemdibbldndaaGreatDoorGB
import Derived.Deep.RegionHeld3
import Derived.OrdersHeld
set_option linter.unusedVariables false
set_option linter.unusedSimpArgs false
set_option maxHeartbeats 12800000
set_option maxRecDepth 20000
namespace Go.Proofs.YthoemdibbldndaaGreatDoor
open Go.RowKit
theorem slice_take(a b:Nat)(f:List St.It)(k:Nat)(h:k<f.length):St.sliceL a b 0 (f.take (k+1))=St.sliceL a b 0 (f.take k)++St.sliceL a b (St.lenL (f.take k)) [f[k]]:=by
 rw[List.take_add_one,List.getElem?_eq_getElem h];have:=St.sliceL_snoc a b (f.take k) f[k] 0
 rw[Nat.zero_add] at this;exact this
theorem slice_len(a b:Nat)(f:List St.It):∀ at',(St.sliceL a b at' f).length<=f.length:=by
 induction f with
 | nil=>intro at';simp[St.sliceL]
 | cons x f ih=>
  intro at';rw[St.sliceL,List.length_append];have:=ih (at'+St.widthI x)
  have h1:(if x.1=1 then (if max a at' - at'<min b (at'+x.2.1.length)-at' then [((1:Int),(x.2.1.take (min b (at'+x.2.1.length)-at')).drop (max a at' - at'),x.2.2)] else []) else (if a<=at'/\at'<b then [x] else [])).length<=1:=by
   repeat' split
   all_goals simp
  simp only[List.length_cons];omega
def SliRel(w:World)(a b:Nat)(f:List St.It)(n:Nat)(s8 s9 s29:Value)(wr:World):Prop:=
 ∃ k:Nat,k<=n/\s29=.int .i64 k/\s9=.int .i64 (St.lenL (f.take k):Nat)/\wr.ownsRow w.heap.size 36 3 s8 (St.sliceL a b 0 (f.take k)).length (cellsIt (St.sliceL a b 0 (f.take k)))/\Und w wr
theorem rslice_any(A:Option Addr)(n c:Nat)(f:List St.It)(a b:Nat)(w:World)(hn:f.length=n)(h:ItemsAt w A f)(hl:n<=100000)(ht:tot f<=4611686018427387904)(hab:a<=b)(hbl:b<=St.lenL f) :
  Calls Tryz.prog 34 #[.slice A n c,.int .i64 a,.int .i64 b] w fun e w'=>∃ v,e=.returned (.tuple #[v,.bool true])/\w'.ownsRow w.heap.size 36 3 v (St.sliceL a b 0 f).length (cellsIt (St.sliceL a b 0 f))/\Und w w':=by
 have H:=hid h;have HN:=hid hn;have hle:=hid (rlength_any A n c f w hn h (by omega) ht);have hll:=lenL_tot f;have HLB:=hid (show St.lenL f<=4611686018427387904+100000 by omega);obtain⟨i0,hi,hz0,hz1,hz2⟩:=info_parts info_item;have y1:¬ (a:Int)<0:=by omega
 have y2:¬ (b:Int)<(a:Int):=by omega
 have y3:¬ ((St.lenL f:Nat):Int)<(b:Int):=by omega
 have y4:¬ St.lenL f<b:=by omega
 clear h hn hll;go_enter Tryz.func34,Tryz.ntmps34;go_wp2_with fail;refine hle.out.mono ?_;rintro e w' ⟨rfl,rfl⟩;go_wp2_with fail;go_loopw [8,9,29] (fun s8 s9 s29 wr=>SliRel w a b f n s8 s9 s29 wr) (fun _ _ s29 _=>n+1-(intOf s29).toNat)
 case atStart=>exact⟨0,by omega,rfl,rfl,World.ownsRow_nil _ _ _ _,Und.refl _⟩
 case round=>
  obtain⟨k,hk,rfl,rfl,hown,hu⟩:=hrel;have HU:=hid hu;have HO:=hid hown;have hsz:=hu.size;clear hu hown y1 y2 y3 hle;have hN:=HN.out
  by_cases hlt:k<n
  ·have hlt2:k<f.length:=by omega
   obtain⟨g,off,rfl,hg,hc⟩:=(H.out.und HU.out) (by omega);obtain⟨c0,c1,c2⟩:=hc k hlt2;have hst:=slice_take a b f k hlt2;have hlk:=lenL_take f k hlt2
   have hlt3:St.lenL (f.take (k+1))<=St.lenL f:=by
    have:St.lenL f=St.lenL (f.take (k+1))+St.lenL (f.drop (k+1)):=by
     conv=>lhs;rw[<- List.take_append_drop (k+1) f]
     unfold St.lenL;rw[List.map_append,List.sum_append]
    omega
   have hsl:=slice_len a b (f.take k) 0;have hLB:=HLB.out;have hx1:=tot_take f k hlt2;have hx2:=tot_le f (k+1);generalize f[k]=x at c0 c1 c2 hst hlk hx1;obtain⟨kd,tx,id⟩:=x;simp only at c0 c1 c2 hx1;generalize hO:St.sliceL a b 0 (f.take k)=O at HO hst hsl;generalize St.lenL (f.take k)=m at hst hlk ⊢;haveI:LtW g wr:=LtW.of hg;obtain⟨A8,c8,rfl,_,_,hA8⟩:=own_slice' HO.out;have hOl:O.length<=100000:=by simp at hsl;omega
   have htl:(⟨tx.toArray⟩:ByteArray).size=tx.length:=by show tx.toArray.size=_;simp
   have hHO:=HO.out.1;have HLK:=hid hlk;have HST:=hid hst;have rel0:∀ W v,W.ownsRow w.heap.size 36 3 v (St.sliceL a b 0 (f.take (k+1))).length (cellsIt (St.sliceL a b 0 (f.take (k+1))))->Und w W->SliRel w a b f n v (.int .i64 (St.lenL (f.take (k+1)):Nat)) (.int .i64 ((k:Int)+1)) W:=fun W v ho hu=>⟨k+1,by omega,congrArg (Value.int .i64) (by omega),rfl,ho,hu⟩
   have REL0:=hid rel0;clear hc hlt2 hsl hO hst hlk rel0 hHO
   by_cases hkd:kd=1
   ·subst hkd
    have hw1:St.lenL (f.take (k+1))=m+tx.length:=by rw[HLK.out];simp[St.widthI]
    have hmb:m+tx.length<=4611686018427487904:=by omega
    have HW:=hid hw1;obtain⟨p,hp⟩:∃ p,p=max a m-m:=⟨_,rfl⟩;obtain⟨q,hq⟩:∃ q,q=min b (m+tx.length)-m:=⟨_,rfl⟩;have hab':=hab;have hb':b<=4611686018427487904:=by omega
    have e1:max (a:Int) (m:Int)-(m:Int)=(p:Int):=by omega
    have hs1:St.sliceL a b m [((1:Int),tx,id)]=if p<q then [(1,(tx.take q).drop p,id)] else []:=by
     simp only[St.sliceL,if_true,List.append_nil,<- hp,<- hq]
    have HS1:=hid (HST.out.trans (by rw[hs1]));clear hs1 hw1 hlt3
    by_cases ham:a<m
    ·by_cases hbm:m+tx.length<b
     ·have za:(a:Int)<(m:Int):=by omega
      have zb:(m:Int)+(tx.length:Int)<(b:Int):=by omega
      have e3:(m:Int)+(tx.length:Int)-(m:Int)=(tx.length:Int):=by omega
      have hp0:p=0:=by omega
      subst hp0
      by_cases hpq:0<q
      ·have hq0:q=tx.length:=by omega
       subst hq0;have hql:tx.length<=tx.length:=by omega
       have z1:((0:Nat):Int)<((tx.length:Nat):Int):=by omega
       have z2:(0:Int)<=((0:Nat):Int):=by omega
       have z3:((0:Nat):Int)<=((tx.length:Nat):Int):=by omega
       have z4:((tx.length:Nat):Int)<=(tx.length:Int):=by omega
       have z0:(0:Int)<((tx.length:Nat):Int):=by omega
       obtain⟨sx,hsx⟩:∃ sx:ByteArray,(⟨tx.toArray⟩:ByteArray).extract 0 tx.length=sx:=⟨_,rfl⟩;have hsl:sx.data.toList=(tx.take tx.length).drop 0:=by rw[<- hsx,Lib.extract_data,List.drop_take]
       have HS2:=HS1.out;rw[if_pos hpq] at HS2;have HS3:=hid HS2;clear hp hq HS2;go_wp2_with fail
       first|refine wp_region_under2 (by kernel_rfl) (by kernel_rfl) ?_|refine wp_region_under (by kernel_rfl) (by kernel_rfl) ?_
       repeat (go_big_quiet_step (first|(fail)))
       refine wpQuiet_nil ?_;rintro _ ⟨X,rfl⟩;obtain⟨w5,hw5⟩:∃ w5,w5=under (wr.alloc (.cells #[.int .i64 1,.string ⟨tx.toArray⟩,.int .i64 id] 36)) X:=⟨_,rfl⟩;have hu5:Und wr w5:=by rw[hw5];exact((Und.refl _).alloc _).under X
       have d1:w5.cell? ⟨wr.heap.size,1,none⟩=some (.string ⟨tx.toArray⟩):=by rw[hw5];go_simp
       have d2:w5.cell? ⟨wr.heap.size,2,none⟩=some (.int .i64 id):=by rw[hw5];go_simp
       rw[<- hw5];haveI:LtW wr.heap.size w5:=LtW.of (zbL _ _ d1);have HO5:=hid (own_und hu5 HO.out);have HU5:=hid (HU.out.trans hu5);have hsz5:=HU5.out.size;clear hw5 hu5 c0 c1 c2;go_wp2_with fail;go_region_law (refine step_append_own rfl (.tmp 70) (.tmp 79) 37 rfl w.heap.size 36 i0 (.agg #[.int .i64 0,.string ⟨#[]⟩,.int .i64 0]) 3 32 Tryz.underlying37 hi hz0 hz1 hz2 rfl (by decide) (.slice A8 O.length c8) O.length _ rfl (owns_und (HO5.out.alloc (.cells #[.int .i64 1,.string sx,.int .i64 id] 36)) (Und.refl _).drew) ⟨w5.heap.size,0,none⟩ 1 1 [.int .i64 1,.string sx,.int .i64 id] rfl rfl (side3b w5 _ _ _ 36 _ rfl) (item_one 1 id _) (by unfold maxLen;omega) (by omega) (by simp <;> omega) ?_;intro v' w6 hown' hgrow _;have hgr:=gb_trans (Und.gb ((by apply_rules[uUe,uUa,uUb,uUc,uUd]):Und w5 (w5.alloc (.cells #[.int .i64 1,.string sx,.int .i64 id] 36)).drew) (Value.slice A8 O.length c8).ownBlock) hgrow (fun g e=>Or.inl e);have hbn:some wr.heap.size ≠ (Value.slice A8 O.length c8).ownBlock:=fun e=>(by have:=(HO.out.lt _ e.symm).2;omega);have g1:=(gb_cell hgr (p:=⟨wr.heap.size,1,none⟩) (LtW.lt inferInstance) hbn).trans d1;haveI:LtW wr.heap.size w6:=LtW.of (zbL _ _ g1))
       all_goals
        have hrel:=REL0.out w6 v' (by rw[HS3.out,cellsIt_snoc,List.length_append,List.length_singleton,<- hsl,ba_eta];exact hown') (HU5.out.grown hgr (fun g hg=>owns_block HO5.out g hg));rw[HW.out] at hrel;have HREL:=hid hrel;clear hrel hown' hgrow hgr hbn;go_wp2
        first|exact⟨HREL.out,by simp[intOf];omega⟩|(refine⟨?_,by simp[intOf];omega⟩;(repeat apply Exists.intro);exact⟨HREL.out,rfl⟩)
      ·have z1:¬ ((0:Int))<(tx.length:Int):=by omega
       have HS2:=HS1.out;rw[if_neg hpq,List.append_nil] at HS2;have HS3:=hid HS2;clear hp hq HS2;go_wp2_with fail
       first|refine wp_region_under2 (by kernel_rfl) (by kernel_rfl) ?_|refine wp_region_under (by kernel_rfl) (by kernel_rfl) ?_
       repeat (go_big_quiet_step (first|(fail)))
       refine wpQuiet_nil ?_;rintro _ ⟨X,rfl⟩;obtain⟨w5,hw5⟩:∃ w5,w5=under (wr.alloc (.cells #[.int .i64 1,.string ⟨tx.toArray⟩,.int .i64 id] 36)) X:=⟨_,rfl⟩;have hu5:Und wr w5:=by rw[hw5];exact((Und.refl _).alloc _).under X
       have d1:w5.cell? ⟨wr.heap.size,1,none⟩=some (.string ⟨tx.toArray⟩):=by rw[hw5];go_simp
       rw[<- hw5];haveI:LtW wr.heap.size w5:=LtW.of (zbL _ _ d1);have hrel:=REL0.out w5 (.slice A8 O.length c8) (by rw[HS3.out];exact own_und hu5 HO.out) (HU.out.trans hu5);rw[HW.out] at hrel;have HREL:=hid hrel;clear hrel hw5 hu5 c0 c1 c2;go_wp2
       first|exact⟨HREL.out,by simp[intOf];omega⟩|(refine⟨?_,by simp[intOf];omega⟩;(repeat apply Exists.intro);exact⟨HREL.out,rfl⟩)
     ·have za:(a:Int)<(m:Int):=by omega
      have zb:¬ (m:Int)+(tx.length:Int)<(b:Int):=by omega
      have hp0:p=0:=by omega
      subst hp0
      by_cases hpq:0<q
      ·have e2:(b:Int)-(m:Int)=(q:Int):=by omega
       have hql:q<=tx.length:=by omega
       have z1:((0:Nat):Int)<((q:Nat):Int):=by omega
       have z2:(0:Int)<=((0:Nat):Int):=by omega
       have z3:((0:Nat):Int)<=((q:Nat):Int):=by omega
       have z4:((q:Nat):Int)<=(tx.length:Int):=by omega
       have z0:(0:Int)<((q:Nat):Int):=by omega
       obtain⟨sx,hsx⟩:∃ sx:ByteArray,(⟨tx.toArray⟩:ByteArray).extract 0 q=sx:=⟨_,rfl⟩;have hsl:sx.data.toList=(tx.take q).drop 0:=by rw[<- hsx,Lib.extract_data,List.drop_take]
       have HS2:=HS1.out;rw[if_pos hpq] at HS2;have HS3:=hid HS2;clear hp hq HS2;go_wp2_with fail
       first|refine wp_region_under2 (by kernel_rfl) (by kernel_rfl) ?_|refine wp_region_under (by kernel_rfl) (by kernel_rfl) ?_
       repeat (go_big_quiet_step (first|(fail)))
       refine wpQuiet_nil ?_;rintro _ ⟨X,rfl⟩;obtain⟨w5,hw5⟩:∃ w5,w5=under (wr.alloc (.cells #[.int .i64 1,.string ⟨tx.toArray⟩,.int .i64 id] 36)) X:=⟨_,rfl⟩;have hu5:Und wr w5:=by rw[hw5];exact((Und.refl _).alloc _).under X
       have d1:w5.cell? ⟨wr.heap.size,1,none⟩=some (.string ⟨tx.toArray⟩):=by rw[hw5];go_simp
       have d2:w5.cell? ⟨wr.heap.size,2,none⟩=some (.int .i64 id):=by rw[hw5];go_simp
       rw[<- hw5];haveI:LtW wr.heap.size w5:=LtW.of (zbL _ _ d1);have HO5:=hid (own_und hu5 HO.out);have HU5:=hid (HU.out.trans hu5);have hsz5:=HU5.out.size;clear hw5 hu5 c0 c1 c2;go_wp2_with fail;go_region_law (refine step_append_own rfl (.tmp 70) (.tmp 79) 37 rfl w.heap.size 36 i0 (.agg #[.int .i64 0,.string ⟨#[]⟩,.int .i64 0]) 3 32 Tryz.underlying37 hi hz0 hz1 hz2 rfl (by decide) (.slice A8 O.length c8) O.length _ rfl (owns_und (HO5.out.alloc (.cells #[.int .i64 1,.string sx,.int .i64 id] 36)) (Und.refl _).drew) ⟨w5.heap.size,0,none⟩ 1 1 [.int .i64 1,.string sx,.int .i64 id] rfl rfl (side3b w5 _ _ _ 36 _ rfl) (item_one 1 id _) (by unfold maxLen;omega) (by omega) (by simp <;> omega) ?_;intro v' w6 hown' hgrow _;have hgr:=gb_trans (Und.gb ((by apply_rules[uUe,uUa,uUb,uUc,uUd]):Und w5 (w5.alloc (.cells #[.int .i64 1,.string sx,.int .i64 id] 36)).drew) (Value.slice A8 O.length c8).ownBlock) hgrow (fun g e=>Or.inl e);have hbn:some wr.heap.size ≠ (Value.slice A8 O.length c8).ownBlock:=fun e=>(by have:=(HO.out.lt _ e.symm).2;omega);have g1:=(gb_cell hgr (p:=⟨wr.heap.size,1,none⟩) (LtW.lt inferInstance) hbn).trans d1;haveI:LtW wr.heap.size w6:=LtW.of (zbL _ _ g1))
       all_goals
        have hrel:=REL0.out w6 v' (by rw[HS3.out,cellsIt_snoc,List.length_append,List.length_singleton,<- hsl,ba_eta];exact hown') (HU5.out.grown hgr (fun g hg=>owns_block HO5.out g hg));rw[HW.out] at hrel;have HREL:=hid hrel;clear hrel hown' hgrow hgr hbn;go_wp2
        first|exact⟨HREL.out,by simp[intOf];omega⟩|(refine⟨?_,by simp[intOf];omega⟩;(repeat apply Exists.intro);exact⟨HREL.out,rfl⟩)
      ·have z1:¬ ((0:Int))<(b:Int)-(m:Int):=by omega
       have HS2:=HS1.out;rw[if_neg hpq,List.append_nil] at HS2;have HS3:=hid HS2;clear hp hq HS2;go_wp2_with fail
       first|refine wp_region_under2 (by kernel_rfl) (by kernel_rfl) ?_|refine wp_region_under (by kernel_rfl) (by kernel_rfl) ?_
       repeat (go_big_quiet_step (first|(fail)))
       refine wpQuiet_nil ?_;rintro _ ⟨X,rfl⟩;obtain⟨w5,hw5⟩:∃ w5,w5=under (wr.alloc (.cells #[.int .i64 1,.string ⟨tx.toArray⟩,.int .i64 id] 36)) X:=⟨_,rfl⟩;have hu5:Und wr w5:=by rw[hw5];exact((Und.refl _).alloc _).under X
       have d1:w5.cell? ⟨wr.heap.size,1,none⟩=some (.string ⟨tx.toArray⟩):=by rw[hw5];go_simp
       rw[<- hw5];haveI:LtW wr.heap.size w5:=LtW.of (zbL _ _ d1);have hrel:=REL0.out w5 (.slice A8 O.length c8) (by rw[HS3.out];exact own_und hu5 HO.out) (HU.out.trans hu5);rw[HW.out] at hrel;have HREL:=hid hrel;clear hrel hw5 hu5 c0 c1 c2;go_wp2
       first|exact⟨HREL.out,by simp[intOf];omega⟩|(refine⟨?_,by simp[intOf];omega⟩;(repeat apply Exists.intro);exact⟨HREL.out,rfl⟩)
    ·by_cases hbm:m+tx.length<b
     ·have za:¬ (a:Int)<(m:Int):=by omega
      have zb:(m:Int)+(tx.length:Int)<(b:Int):=by omega
      have e3:(m:Int)+(tx.length:Int)-(m:Int)=(tx.length:Int):=by omega
      have e1:(a:Int)-(m:Int)=(p:Int):=by omega
      by_cases hpq:p<q
      ·have hq0:q=tx.length:=by omega
       subst hq0;have hql:tx.length<=tx.length:=by omega
       have z1:((p:Nat):Int)<((tx.length:Nat):Int):=by omega
       have z2:(0:Int)<=((p:Nat):Int):=by omega
       have z3:((p:Nat):Int)<=((tx.length:Nat):Int):=by omega
       have z4:((tx.length:Nat):Int)<=(tx.length:Int):=by omega
       have z0:(0:Int)<((tx.length:Nat):Int):=by omega
       obtain⟨sx,hsx⟩:∃ sx:ByteArray,(⟨tx.toArray⟩:ByteArray).extract p tx.length=sx:=⟨_,rfl⟩;have hsl:sx.data.toList=(tx.take tx.length).drop p:=by rw[<- hsx,Lib.extract_data,List.drop_take]
       have HS2:=HS1.out;rw[if_pos hpq] at HS2;have HS3:=hid HS2;clear hp hq HS2;go_wp2_with fail
       first|refine wp_region_under2 (by kernel_rfl) (by kernel_rfl) ?_|refine wp_region_under (by kernel_rfl) (by kernel_rfl) ?_
       repeat (go_big_quiet_step (first|(fail)))
       refine wpQuiet_nil ?_;rintro _ ⟨X,rfl⟩;obtain⟨w5,hw5⟩:∃ w5,w5=under (wr.alloc (.cells #[.int .i64 1,.string ⟨tx.toArray⟩,.int .i64 id] 36)) X:=⟨_,rfl⟩;have hu5:Und wr w5:=by rw[hw5];exact((Und.refl _).alloc _).under X
       have d1:w5.cell? ⟨wr.heap.size,1,none⟩=some (.string ⟨tx.toArray⟩):=by rw[hw5];go_simp
       have d2:w5.cell? ⟨wr.heap.size,2,none⟩=some (.int .i64 id):=by rw[hw5];go_simp
       rw[<- hw5];haveI:LtW wr.heap.size w5:=LtW.of (zbL _ _ d1);have HO5:=hid (own_und hu5 HO.out);have HU5:=hid (HU.out.trans hu5);have hsz5:=HU5.out.size;clear hw5 hu5 c0 c1 c2;go_wp2_with fail;go_region_law (refine step_append_own rfl (.tmp 70) (.tmp 79) 37 rfl w.heap.size 36 i0 (.agg #[.int .i64 0,.string ⟨#[]⟩,.int .i64 0]) 3 32 Tryz.underlying37 hi hz0 hz1 hz2 rfl (by decide) (.slice A8 O.length c8) O.length _ rfl (owns_und (HO5.out.alloc (.cells #[.int .i64 1,.string sx,.int .i64 id] 36)) (Und.refl _).drew) ⟨w5.heap.size,0,none⟩ 1 1 [.int .i64 1,.string sx,.int .i64 id] rfl rfl (side3b w5 _ _ _ 36 _ rfl) (item_one 1 id _) (by unfold maxLen;omega) (by omega) (by simp <;> omega) ?_;intro v' w6 hown' hgrow _;have hgr:=gb_trans (Und.gb ((by apply_rules[uUe,uUa,uUb,uUc,uUd]):Und w5 (w5.alloc (.cells #[.int .i64 1,.string sx,.int .i64 id] 36)).drew) (Value.slice A8 O.length c8).ownBlock) hgrow (fun g e=>Or.inl e);have hbn:some wr.heap.size ≠ (Value.slice A8 O.length c8).ownBlock:=fun e=>(by have:=(HO.out.lt _ e.symm).2;omega);have g1:=(gb_cell hgr (p:=⟨wr.heap.size,1,none⟩) (LtW.lt inferInstance) hbn).trans d1;haveI:LtW wr.heap.size w6:=LtW.of (zbL _ _ g1))
       all_goals
        have hrel:=REL0.out w6 v' (by rw[HS3.out,cellsIt_snoc,List.length_append,List.length_singleton,<- hsl,ba_eta];exact hown') (HU5.out.grown hgr (fun g hg=>owns_block HO5.out g hg));rw[HW.out] at hrel;have HREL:=hid hrel;clear hrel hown' hgrow hgr hbn;go_wp2
        first|exact⟨HREL.out,by simp[intOf];omega⟩|(refine⟨?_,by simp[intOf];omega⟩;(repeat apply Exists.intro);exact⟨HREL.out,rfl⟩)
      ·clear e1
       have z1:¬ ((a:Int)-(m:Int))<(tx.length:Int):=by omega
       have HS2:=HS1.out;rw[if_neg hpq,List.append_nil] at HS2;have HS3:=hid HS2;clear hp hq HS2;go_wp2_with fail
       first|refine wp_region_under2 (by kernel_rfl) (by kernel_rfl) ?_|refine wp_region_under (by kernel_rfl) (by kernel_rfl) ?_
       repeat (go_big_quiet_step (first|(fail)))
       refine wpQuiet_nil ?_;rintro _ ⟨X,rfl⟩;obtain⟨w5,hw5⟩:∃ w5,w5=under (wr.alloc (.cells #[.int .i64 1,.string ⟨tx.toArray⟩,.int .i64 id] 36)) X:=⟨_,rfl⟩;have hu5:Und wr w5:=by rw[hw5];exact((Und.refl _).alloc _).under X
       have d1:w5.cell? ⟨wr.heap.size,1,none⟩=some (.string ⟨tx.toArray⟩):=by rw[hw5];go_simp
       rw[<- hw5];haveI:LtW wr.heap.size w5:=LtW.of (zbL _ _ d1);have hrel:=REL0.out w5 (.slice A8 O.length c8) (by rw[HS3.out];exact own_und hu5 HO.out) (HU.out.trans hu5);rw[HW.out] at hrel;have HREL:=hid hrel;clear hrel hw5 hu5 c0 c1 c2;go_wp2
       first|exact⟨HREL.out,by simp[intOf];omega⟩|(refine⟨?_,by simp[intOf];omega⟩;(repeat apply Exists.intro);exact⟨HREL.out,rfl⟩)
     ·have za:¬ (a:Int)<(m:Int):=by omega
      have zb:¬ (m:Int)+(tx.length:Int)<(b:Int):=by omega
      have e1:(a:Int)-(m:Int)=(p:Int):=by omega
      by_cases hpq:p<q
      ·have e2:(b:Int)-(m:Int)=(q:Int):=by omega
       have hql:q<=tx.length:=by omega
       have z1:((p:Nat):Int)<((q:Nat):Int):=by omega
       have z2:(0:Int)<=((p:Nat):Int):=by omega
       have z3:((p:Nat):Int)<=((q:Nat):Int):=by omega
       have z4:((q:Nat):Int)<=(tx.length:Int):=by omega
       have z0:(0:Int)<((q:Nat):Int):=by omega
       obtain⟨sx,hsx⟩:∃ sx:ByteArray,(⟨tx.toArray⟩:ByteArray).extract p q=sx:=⟨_,rfl⟩;have hsl:sx.data.toList=(tx.take q).drop p:=by rw[<- hsx,Lib.extract_data,List.drop_take]
       have HS2:=HS1.out;rw[if_pos hpq] at HS2;have HS3:=hid HS2;clear hp hq HS2;go_wp2_with fail
       first|refine wp_region_under2 (by kernel_rfl) (by kernel_rfl) ?_|refine wp_region_under (by kernel_rfl) (by kernel_rfl) ?_
       repeat (go_big_quiet_step (first|(fail)))
       refine wpQuiet_nil ?_;rintro _ ⟨X,rfl⟩;obtain⟨w5,hw5⟩:∃ w5,w5=under (wr.alloc (.cells #[.int .i64 1,.string ⟨tx.toArray⟩,.int .i64 id] 36)) X:=⟨_,rfl⟩;have hu5:Und wr w5:=by rw[hw5];exact((Und.refl _).alloc _).under X
       have d1:w5.cell? ⟨wr.heap.size,1,none⟩=some (.string ⟨tx.toArray⟩):=by rw[hw5];go_simp
       have d2:w5.cell? ⟨wr.heap.size,2,none⟩=some (.int .i64 id):=by rw[hw5];go_simp
       rw[<- hw5];haveI:LtW wr.heap.size w5:=LtW.of (zbL _ _ d1);have HO5:=hid (own_und hu5 HO.out);have HU5:=hid (HU.out.trans hu5);have hsz5:=HU5.out.size;clear hw5 hu5 c0 c1 c2;go_wp2_with fail;go_region_law (refine step_append_own rfl (.tmp 70) (.tmp 79) 37 rfl w.heap.size 36 i0 (.agg #[.int .i64 0,.string ⟨#[]⟩,.int .i64 0]) 3 32 Tryz.underlying37 hi hz0 hz1 hz2 rfl (by decide) (.slice A8 O.length c8) O.length _ rfl (owns_und (HO5.out.alloc (.cells #[.int .i64 1,.string sx,.int .i64 id] 36)) (Und.refl _).drew) ⟨w5.heap.size,0,none⟩ 1 1 [.int .i64 1,.string sx,.int .i64 id] rfl rfl (side3b w5 _ _ _ 36 _ rfl) (item_one 1 id _) (by unfold maxLen;omega) (by omega) (by simp <;> omega) ?_;intro v' w6 hown' hgrow _;have hgr:=gb_trans (Und.gb ((by apply_rules[uUe,uUa,uUb,uUc,uUd]):Und w5 (w5.alloc (.cells #[.int .i64 1,.string sx,.int .i64 id] 36)).drew) (Value.slice A8 O.length c8).ownBlock) hgrow (fun g e=>Or.inl e);have hbn:some wr.heap.size ≠ (Value.slice A8 O.length c8).ownBlock:=fun e=>(by have:=(HO.out.lt _ e.symm).2;omega);have g1:=(gb_cell hgr (p:=⟨wr.heap.size,1,none⟩) (LtW.lt inferInstance) hbn).trans d1;haveI:LtW wr.heap.size w6:=LtW.of (zbL _ _ g1))
       all_goals
        have hrel:=REL0.out w6 v' (by rw[HS3.out,cellsIt_snoc,List.length_append,List.length_singleton,<- hsl,ba_eta];exact hown') (HU5.out.grown hgr (fun g hg=>owns_block HO5.out g hg));rw[HW.out] at hrel;have HREL:=hid hrel;clear hrel hown' hgrow hgr hbn;go_wp2
        first|exact⟨HREL.out,by simp[intOf];omega⟩|(refine⟨?_,by simp[intOf];omega⟩;(repeat apply Exists.intro);exact⟨HREL.out,rfl⟩)
      ·clear e1
       have z1:¬ ((a:Int)-(m:Int))<(b:Int)-(m:Int):=by omega
       have HS2:=HS1.out;rw[if_neg hpq,List.append_nil] at HS2;have HS3:=hid HS2;clear hp hq HS2;go_wp2_with fail
       first|refine wp_region_under2 (by kernel_rfl) (by kernel_rfl) ?_|refine wp_region_under (by kernel_rfl) (by kernel_rfl) ?_
       repeat (go_big_quiet_step (first|(fail)))
       refine wpQuiet_nil ?_;rintro _ ⟨X,rfl⟩;obtain⟨w5,hw5⟩:∃ w5,w5=under (wr.alloc (.cells #[.int .i64 1,.string ⟨tx.toArray⟩,.int .i64 id] 36)) X:=⟨_,rfl⟩;have hu5:Und wr w5:=by rw[hw5];exact((Und.refl _).alloc _).under X
       have d1:w5.cell? ⟨wr.heap.size,1,none⟩=some (.string ⟨tx.toArray⟩):=by rw[hw5];go_simp
       rw[<- hw5];haveI:LtW wr.heap.size w5:=LtW.of (zbL _ _ d1);have hrel:=REL0.out w5 (.slice A8 O.length c8) (by rw[HS3.out];exact own_und hu5 HO.out) (HU.out.trans hu5);rw[HW.out] at hrel;have HREL:=hid hrel;clear hrel hw5 hu5 c0 c1 c2;go_wp2
       first|exact⟨HREL.out,by simp[intOf];omega⟩|(refine⟨?_,by simp[intOf];omega⟩;(repeat apply Exists.intro);exact⟨HREL.out,rfl⟩)
   ·have zk:(kd==1)=false:=by simpa using hkd
    have zk2:(kd != 1)=true:=by simpa using hkd
    have hw1:St.lenL (f.take (k+1))=m+1:=by rw[HLK.out];unfold St.widthI;rw[if_neg hkd]
    have HW:=hid hw1
    have hs1:St.sliceL a b m [(kd,tx,id)]=if a<=m/\m<b then [(kd,tx,id)] else []:=by
     simp only[St.sliceL,if_neg hkd,List.append_nil]
    have HS1:=HST.out;rw[hs1] at HS1;have hm1:m+1<=5000000000000000000:=by omega
    by_cases hin:a<=m/\m<b
    ·rw[if_pos hin] at HS1
     have HS3:=hid HS1;have z1:(a:Int)<=(m:Int):=by omega
     have z2:(m:Int)<(b:Int):=by omega
     clear hs1 HS1 hkd hlt3 hw1;go_wp2_with (at_builtin;refine wpList_append_own _ rfl _ _ 37 rfl w.heap.size 36 i0 (.agg #[.int .i64 0,.string ⟨#[]⟩,.int .i64 0]) 3 32 Tryz.underlying37 hi hz0 hz1 hz2 rfl (by decide) (.slice A8 O.length c8) O.length _ rfl ((HO.out.alloc _).alloc _) _ 1 1 [.int .i64 kd,.string ⟨tx.toArray⟩,.int .i64 id] rfl rfl ?_ (item_one _ _ _) (by unfold maxLen;omega) (by omega) ?_ ?_)
     ·exact side3b _ _ _ _ _ _ (by simp)
     ·simp;omega
     ·intro v' w4 hown' hgrow _
      have hrel:=REL0.out w4 v' (by rw[HS3.out,cellsIt_snoc,List.length_append,List.length_singleton];exact hown') (((HU.out.alloc _).alloc _).grown hgrow (fun g hg=>owns_block HO.out g hg));rw[HW.out] at hrel;have HREL:=hid hrel;clear hown' hgrow hrel;go_wp2;exact⟨by simpa using HREL.out,by simp[intOf];omega⟩
    ·rw[if_neg hin,List.append_nil] at HS1
     have HS3:=hid HS1;have hrel:=fun W (hW:Und wr W)=>REL0.out W (.slice A8 O.length c8) (by rw[HS3.out];exact own_und hW HO.out) (HU.out.trans hW)
     rw[HW.out] at hrel;have HREL:=hid hrel;clear hs1 HS1 hkd hlt3 hw1 hrel
     by_cases q1:a<=m
     ·have z1:(a:Int)<=(m:Int):=by omega
      have z2:¬ (m:Int)<(b:Int):=by omega
      go_wp2;exact⟨HREL.out _ (by apply_rules[uUe,uUa,uUb,uUc,uUd]),by simp[intOf];omega⟩
     ·have z1:¬ (a:Int)<=(m:Int):=by omega
      go_wp2;exact⟨HREL.out _ (by apply_rules[uUe,uUa,uUb,uUc,uUd]),by simp[intOf];omega⟩
  ·have hkn:k=n:=by omega
   subst hkn;have hfk:f.take k=f:=List.take_of_length_le (by omega);rw[hfk] at HO ⊢;clear hlt hfk;go_wp2;refine bodyPost_ret (v:=.tuple #[_,.bool true]) (by simp[results,Tryz.results34,go_sem];rfl) rfl ?_;exact⟨_,rfl,HO.out,HU.out⟩
end Go.Proofs.YthoemdibbldndaaGreatDoor
