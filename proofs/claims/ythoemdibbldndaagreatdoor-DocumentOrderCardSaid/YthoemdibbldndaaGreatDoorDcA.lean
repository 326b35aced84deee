/- The contract of item.Normalize: what it gives is St.normL. -/
import Derived.Lib.AppendStr
import Derived.Lib.AppendZerosOnto
import Derived.Test.YthoemdibbldndaaGreatDoorGI
import Derived.Laws.OwnMore
import Derived.Test.YthoemdibbldndaaGreatDoorRefSame
import Derived.MapKept
import Derived.Test.YthoemdibbldndaaGreatDoorGF
import Derived.BigQuiet
import Derived.Laws.MakeOwn
import Derived.Deep.RegionLaw
set_option linter.all false
set_option maxHeartbeats 0
set_option maxRecDepth 20000
open Go.Value renaming int->Yp,string->Yq,slice->Yr,bool->Ys,tuple->Yu
open Go.IntKind renaming i64->Yv
open Go.Ending renaming returned->Yx
open Go renaming World->YA
namespace Go.Proofs.YthoemdibbldndaaGreatDoor
open Go.RowKit
section
theorem Mc{f:List St.It}{t:List UInt8}(h:St.fK f)(s:List UInt8)(i:Int):St.aK (f++St.cm t) (1,s,i)=f++St.cm (t++s):=by
 by_cases hs:s=[]
 ·subst hs;rw[List.append_nil];unfold St.aK;rw[if_pos rfl,if_pos rfl]
 unfold St.cm
 by_cases ht:t=[]
 ·subst ht;simp only[if_true,List.append_nil,List.nil_append];rw[if_neg hs];rcases St.cL f with rfl|⟨a,b,rfl⟩
  ·rw[St.dU];simp[hs]
  rw[St.cN];have:=h b (by simp)
  simp[this,hs]
 rw[if_neg ht,if_neg (by simp[ht]),St.cN];simp[hs]
theorem Gx(f:List St.It)(k:Nat)(h:k<f.length):St.bI (f.take (k+1))=St.aK (St.bI (f.take k)) f[k]:=by
 rw[List.take_add_one,List.getElem?_eq_getElem h];exact St.ek _ _
theorem LR(f:List St.It)(k:Nat)(h:k<f.length):aY (f.take (k+1))=aY (f.take k)+f[k].2.1.length:=by
 rw[List.take_add_one,List.getElem?_eq_getElem h];exact cA _ _
theorem uS(f:List St.It)(k:Nat):aY (f.take k)<=aY f:=by
 have e:aY f=aY (f.take k)+aY (f.drop k):=by
  conv=>lhs;rw[<-List.take_append_drop k f]
  unfold aY;rw[List.map_append,List.sum_append]
 omega
theorem JU{w:YA}{B n c:Nat}{A:Option Addr}{l:List UInt8}(h:w.ownsRow B 5 1 (Yr A n c) n (Lib.byteCells l))(h0:0<n) :
  (convert 22 9 (Yr A n c)).run Tryz.prog w=.ok (Yq ⟨l.toArray⟩) w:=by
 have hl:l.length=n:=by have:=h.1;rw[Lib.byteCells_length]at this;simpa using this
 obtain⟨g,rfl,_,_,hc⟩:=eE h h0
 rw[run_convert_bytes_arg w 22 5 Tryz.underlying22 Tryz.underlying5 g 0 n c (l.map λx=>(x.toNat:Int)) (by simpa using hl) (λi hi=>by
  rw[Nat.zero_add];refine hc i _ ?_;have hil:i<l.length:=by omega
  simp[Lib.byteCells,List.getD_eq_getElem?_getD,hil]) _ Tryz.underlying9]
 simp[strOfNums,Function.comp_def]
theorem zY(s:List UInt8):Lib.strCells ⟨s.toArray⟩=Lib.byteCells s:=by
 simp[Lib.strCells,Lib.byteCells]
theorem B4(a b:List UInt8):Lib.byteCells a++Lib.byteCells b=Lib.byteCells (a++b):=by simp[Lib.byteCells]
def xp(w:YA)(f:List St.It)(n:Nat)(s3 s4:Value)(wr:YA):Prop:=
 ∃(k:Nat) (O:List St.It),k<=n/\s4=Yp Yv k/\O=St.bI (f.take k)/\(∀x,f[k]?=some x->x.1=1->St.fK O)/\O.length<=k/\wr.ownsRow w.1.size 36 3 s3 O.length (ak O)/\ac w wr
def JK(w:YA)(f O:List St.It)(n k:Nat)(v:Value)(s4 s5:Value)(wr:YA):Prop:=
 ∃(j:Nat) (t:List UInt8),k<=j/\j<=n/\s4=Yp Yv j/\St.bI (f.take j)=O++St.cm t/\t.length<=aY (f.take j)/\wr.ownsRow w.1.size 5 1 s5 t.length (Lib.byteCells t)/\wr.ownsRow w.1.size 36 3 v O.length (ak O)/\ac w wr
theorem Bo(A:Option Addr)(n c:Nat)(f:List St.It)(w:YA)(hn:f.length=n)(h:aJ w A f)(hl:n<=1000000)(ht:aY f<=1000000000000) :
  Calls Tryz.prog 130 #[Yr A n c] w λe w'=>∃v,e=Yx v/\w'.ownsRow w.1.size 36 3 v (St.bI f).length (ak (St.bI f))/\ac w w':=by
 have H:=aa h;have HN:=aa hn;have HT:=aa ht;obtain⟨i0,hi,hz0,hz1,hz2⟩:=info_parts dM;obtain⟨ib,kb,kz0,kz1,kz2⟩:=info_parts qg;clear h hn ht;go_enter Tryz.func130,Tryz.ntmps130;go_wp2;go_loopw [3,4] (λs3 s4 wr=>xp w f n s3 s4 wr) (λ_ s4 _=>n+1-(intOf s4).toNat)
 case atStart=>exact⟨0,[],by omega,rfl,rfl,λ_ _ _=>St.qm,by simp,World.ownsRow_nil _ _ _ _,ac.refl _⟩
 case round=>
  obtain⟨k,O,hk,rfl,hO,hNT,Rd,hown,hu⟩:=hrel;have HU:=aa hu;have hsz:=hu.size;have HOW:=aa hown;have n3:=aa hNT;have Ob:=aa hO;have hN:=HN.out;obtain⟨AO,cO,rfl,_⟩:=aI hown;clear hu hNT hO
  by_cases hlt:k<n
  ·clear hown;have aO:k<f.length:=by omega
   obtain⟨b,off,hAe,hb,hc⟩:=(H.out.ai HU.out) (by omega);obtain⟨c0,c1,c2⟩:=hc k aO;have hnt:=Gx f k aO;have hgx:f[k]?=some f[k]:=List.getElem?_eq_getElem aO;generalize f[k]=x at c0 c1 c2 hnt hgx;obtain⟨kd,tx,id⟩:=x;simp only at c0 c1 c2;haveI:af b wr:=af.of hb;have UN:=aa hnt;have Ty:=aa hgx;clear hc hnt hgx
   by_cases k1:kd=1
   ·subst k1;have VT:=aa (n3.out _ Ty.out rfl);subst hAe;go_wp2_with fail;go_loopw [4,5] (λs4 s5 wr=>JK w f O n k (Yr AO O.length cO) s4 s5 wr) (λs4 _ _=>n+1-(intOf s4).toNat)
    case atStart=>exact⟨k,[],Nat.le_refl _,hk,rfl,by unfold St.cm;simp[Ob.out],by simp,World.ownsRow_nil _ _ _ _,HOW.out,HU.out⟩
    case round=>
     clear c0 c1 c2;obtain⟨j,t,hkj,hjn,rfl,hno,htl,hob,hown,hu⟩:=hrel;have aX:=aa hu;have Oa:=aa hob;have yR:=aa hown;have kU:=aa hno;have hT:=HT.out;have htk:=uS f j;have la:=hu.size;obtain⟨AB,cB,rfl,_⟩:=aI hob;clear hu hob hown hno
     by_cases xY:j<n/\(f[j]?.map (·.1))=some 1
     ·obtain⟨hjl,rq⟩:=xY;have iC:j<f.length:=by omega
      obtain⟨b2,off2,hAe2,hb2,hc2⟩:=(H.out.ai aX.out) (by omega);obtain⟨rfl,rfl⟩:b=b2/\off=off2:=by simp at hAe2;exact hAe2
      obtain⟨e0,e1,e2⟩:=hc2 j iC;have hnt:=Gx f j iC;have rv:=LR f j iC;rw[List.getElem?_eq_getElem iC]at rq;generalize f[j]=y at e0 e1 e2 hnt rq rv;obtain⟨yk,yt,yi⟩:=y;simp only[Option.map_some,Option.some.injEq]at rq;subst rq;simp only at e0 e1 e2 rv;rw[kU.out,Mc VT.out]at hnt;haveI:af b wr:=af.of hb2;have WI:(⟨yt.toArray⟩:ByteArray).size=yt.length:=by show yt.toArray.size=_;simp
      have Xt:=uS f (j+1);have UO:=aa hnt;clear hc2 hnt iC;go_wp2_with (at_builtin;refine Lib.wpList_append_own_string _ rfl _ _ 22 9 rfl w.1.size 5 ib Tryz.underlying22 Tryz.underlying9 kb kz0 kz1 kz2 _ _ _ rfl Oa.out ⟨yt.toArray⟩ rfl ?_ ?_ ?_ ?_)
      ·unfold maxLen;omega
      ·show t.length+(⟨yt.toArray⟩:ByteArray).size<=_;rw[WI];omega
      intro v' w4 hown' hgrow _;rw[zY,B4]at hown';have kW:=yR.out.kept hgrow (da yR.out Oa.out (by decide));have bj:=aX.out.grown hgrow (λg hg=>aD Oa.out g hg);have HE:=aa (show JK w f O n k (Yr AO O.length cO) (Yp Yv ((j:Int)+1)) v' w4 from⟨j+1,t++yt,by omega,by omega,congrArg (Yp Yv) (by omega),UO.out,by rw[List.length_append,rv];omega,by rw[List.length_append];exact hown',kW,bj⟩);clear hown' hgrow kW bj;go_wp2;exact⟨HE.out,by simp[intOf];omega⟩
     have Xo:k<j:=by
      rcases Nat.lt_or_ge k j with h|h
      ·exact h
      exfalso;have:j=k:=by omega
      subst this;exact xY ⟨hlt,by rw[Ty.out];rfl⟩
     have hnx:∀x,f[j]?=some x->x.1=1->∀O':List St.It,St.fK O':=by
      intro x hx h1 O';exfalso;refine xY ⟨?_,by rw[hx];simp[h1]⟩;rcases Nat.lt_or_ge j n with h|h
      ·exact h
      rw[List.getElem?_eq_none (by omega)]at hx;cases hx
     have Qr:=aa hnx;clear hnx
     by_cases ht0:t=[]
     ·subst ht0;have hfin:=aa (show xp w f n (Yr AO O.length cO) (Yp Yv j) wr from⟨j,O,hjn,rfl,by rw[kU.out];simp[St.cm],λx hx h1=>Qr.out x hx h1 O,by omega,yR.out,aX.out⟩)
      by_cases hjl:j<n
      ·have iC:j<f.length:=by omega
       obtain⟨b2,off2,hAe2,hb2,hc2⟩:=(H.out.ai aX.out) (by omega);obtain⟨rfl,rfl⟩:b=b2/\off=off2:=by simp at hAe2;exact hAe2
       have e0:=(hc2 j iC).1;have hy1:¬f[j].1=1:=λe=>xY ⟨hjl,by rw[List.getElem?_eq_getElem iC];simp[e]⟩
       generalize f[j].1=yk at e0 hy1;have q1:(yk==1)=false:=by simpa using hy1
       haveI:af b wr:=af.of hb2;clear hc2 xY hy1;go_wp2;exact⟨hfin.out,by simp[intOf];omega⟩
      clear xY;go_wp2;exact⟨hfin.out,by simp[intOf];omega⟩
     have uq:0<t.length:=List.length_pos_iff.2 ht0;have zt:(0:Int)<(t.length:Int):=by omega
     have hcv:∀W,ac wr W->(convert 22 9 (Yr AB t.length cB)).run Tryz.prog W=.ok (Yq ⟨t.toArray⟩) W:=λW hW=>JU (aH hW Oa.out) uq
     have Xl:=hcv _ (ac.refl _)
     have hfin:∀v' w4,w4.ownsRow w.1.size 36 3 v' (O.length+1) (ak O++[Yp Yv 1,Yq ⟨t.toArray⟩,Yp Yv 0])->ac w w4->xp w f n v' (Yp Yv j) w4:=λv' w4 h1 h2=>
      ⟨j,O++[(1,t,0)],hjn,rfl,by rw[kU.out];simp[St.cm,ht0],λx hx h1=>Qr.out x hx h1 _,by simp;omega,by rw[bM,List.length_append,List.length_singleton];exact h1,h2⟩
     have dA:=aa hfin;have Ri:∀(W:YA),ac wr W->W.ownsRow w.1.size 36 3 (Yr AO O.length cO) O.length (ak O):=λW hW=>aH hW yR.out
     by_cases hjl:j<n
     ·have iC:j<f.length:=by omega
      obtain⟨b2,off2,hAe2,hb2,hc2⟩:=(H.out.ai aX.out) (by omega);obtain⟨rfl,rfl⟩:b=b2/\off=off2:=by simp at hAe2;exact hAe2
      have e0:=(hc2 j iC).1;have hy1:¬f[j].1=1:=λe=>xY ⟨hjl,by rw[List.getElem?_eq_getElem iC];simp[e]⟩
      generalize f[j].1=yk at e0 hy1;have q1:(yk==1)=false:=by simpa using hy1
      haveI:af b wr:=af.of hb2;clear hc2 xY hy1;go_wp2_with (at_builtin;refine wpList_append_own _ rfl _ _ 37 rfl w.1.size 36 i0 (.agg #[.int .i64 0,.string ⟨#[]⟩,.int .i64 0]) 3 32 Tryz.underlying37 hi hz0 hz1 hz2 rfl (by decide) (.slice AO O.length cO) O.length _ rfl (Ri _ uZ) _ 1 1 [.int .i64 1,.string ⟨t.toArray⟩,.int .i64 0] rfl rfl ?_ (cX _ _ _) (by unfold maxLen;omega) (by omega) ?_ ?_)
      all_goals try exact eL _ _ _ _ _ _ rfl
      all_goals try omega
      all_goals try (simp;omega;done)
      intro v' w4 hown' hgrow _;have HE:=aa (dA.out v' w4 hown' ((aX.out.trans uZ).grown hgrow (λg hg=>aD yR.out g hg)));clear hown' hgrow;go_wp2;exact⟨HE.out,by simp[intOf];omega⟩
     clear xY;go_wp2_with (at_builtin;refine wpList_append_own _ rfl _ _ 37 rfl w.1.size 36 i0 (.agg #[.int .i64 0,.string ⟨#[]⟩,.int .i64 0]) 3 32 Tryz.underlying37 hi hz0 hz1 hz2 rfl (by decide) (.slice AO O.length cO) O.length _ rfl (Ri _ uZ) _ 1 1 [.int .i64 1,.string ⟨t.toArray⟩,.int .i64 0] rfl rfl ?_ (cX _ _ _) (by unfold maxLen;omega) (by omega) ?_ ?_)
     all_goals try exact eL _ _ _ _ _ _ rfl
     all_goals try omega
     all_goals try (simp;omega;done)
     intro v' w4 hown' hgrow _;have HE:=aa (dA.out v' w4 hown' ((aX.out.trans uZ).grown hgrow (λg hg=>aD yR.out g hg)));clear hown' hgrow;go_wp2;exact⟨HE.out,by simp[intOf];omega⟩
   have q1:(kd==1)=false:=by simpa using k1
   have q2:(kd != 1)=true:=by simpa using k1
   have hadd:St.bI (f.take (k+1))=O++[(kd,tx,id)]:=by rw[UN.out,<-Ob.out];unfold St.aK;rw[if_neg k1]
   have hfin:∀v' w4,w4.ownsRow w.1.size 36 3 v' (O.length+1) (ak O++[Yp Yv kd,Yq ⟨tx.toArray⟩,Yp Yv id])->ac w w4->xp w f n v' (Yp Yv ((k:Int)+1)) w4:=λv' w4 h1 h2=>
    ⟨k+1,O++[(kd,tx,id)],by omega,congrArg (Yp Yv) (by omega),hadd.symm,λ_ _ _=>St.my _ _ _ _ k1,by simp;omega,by rw[bM,List.length_append,List.length_singleton];exact h1,h2⟩
   have dA:=aa hfin;subst hAe;clear k1 hadd hfin;go_wp2_with (at_builtin;refine wpList_append_own _ rfl _ _ 37 rfl w.1.size 36 i0 (.agg #[.int .i64 0,.string ⟨#[]⟩,.int .i64 0]) 3 32 Tryz.underlying37 hi hz0 hz1 hz2 rfl (by decide) (.slice AO O.length cO) O.length _ rfl (HOW.out.alloc _) _ 1 1 [.int .i64 kd,.string ⟨tx.toArray⟩,.int .i64 id] rfl rfl ?_ (cX _ _ _) (by unfold maxLen;omega) (by omega) ?_ ?_)
   all_goals try exact eL _ _ _ _ _ _ rfl
   all_goals try omega
   all_goals try (simp;omega;done)
   intro v' w4 hown' hgrow _;have HE:=aa (dA.out v' w4 hown' ((HU.out.alloc _).grown hgrow (λg hg=>aD HOW.out g hg)));clear hown' hgrow;go_wp2;exact⟨HE.out,by simp[intOf];omega⟩
  have hkn:k=n:=by omega
  subst hkn;have hft:f.take k=f:=List.take_of_length_le (by omega);rw[hft]at Ob;have Wm:=Ob.out;subst Wm;clear hlt hft;go_wp2;go_ret;exact⟨_,rfl,HOW.out,HU.out⟩
end
section
set_option maxRecDepth 100000 in
theorem MF(n:Nat)(w:YA)(hn:n<=200000) :
  Calls Tryz.prog 174 #[Yr none 0 0,Yp Yv (n:Int)] w λe w'=>∃v,e=Yx v/\w'.ownsRow w.1.size 36 3 v 0 []/\ac w w':=by
 obtain⟨i0,hi,hz0,hz1,hz2⟩:=info_parts dM
 by_cases h0:n=0
 ·subst h0;go_enter Tryz.func174,Tryz.ntmps174;go_wp2;go_ret;exact⟨_,rfl,World.ownsRow_nil _ _ _ _,ac.refl _⟩
 have z1:¬(n:Int)<0:=by omega
 have z2:(0:Int)<(n:Int):=by omega
 have hold:(Builtin.firstCells i0.size 0 (Yr none 0 0)).run Tryz.prog w.drew=.ok ([]:List Value).toArray w.drew:=run_firstCells_none w.drew i0.size 0 0 0
 have Gj:∀ty,(Builtin.append_ #[37,3] ty #[Yr none 0 0,Yp Yv (n:Int)]).run Tryz.prog w=.ok (Yr (some ⟨w.1.size,0,none⟩) (0+n) (grownCap w (0+n) 0 36)) (w.drew.alloc (.cells (([]:List Value).toArray++Builtin.zeroCells (Value.agg #[Yp Yv 0,Yq ⟨#[]⟩,Yp Yv 0]).cells n++Builtin.zeroCells (Value.agg #[Yp Yv 0,Yq ⟨#[]⟩,Yp Yv 0]).cells (grownCap w (0+n) 0 36-(0+n))) 36)):=λty=>
  Lib.run_append_grow_zeros w 37 3 ty 36 i0 _ .i64 .i64 Tryz.underlying37 Tryz.underlying3 hi hz0 none 0 0 [] hold n (by omega) (by omega) (by omega) (by omega) (by rw[hz2];omega) (by rw[hz2,Nat.zero_add];exact growslice_fits (by omega) (by omega))
 have hge:=grownCap_ge w (0+n) 0 36;have hle:=grownCap_le_maxLen w (0+n) 0 36 (by unfold maxLen;omega);obtain⟨G,hG⟩:∃G,G=grownCap w (0+n) 0 36:=⟨_,rfl⟩;rw[<-hG]at Gj hge hle;have Rz:G<=9223372036854775807:=by unfold maxLen at hle;omega
 have hown:∀cs:Array Value,cs.size=G*3->(w.alloc (.cells cs 36)).drew.ownsRow w.1.size 36 3 (Yr (some ⟨w.1.size,0,none⟩) 0 G) 0 []:=λcs hcs=>
  ⟨rfl,.inr ⟨w.1.size,G,cs,rfl,Nat.le_refl _,heap_alloc_new w _,by omega,hle,hcs,by simp⟩⟩
 have HOWN:=aa hown;clear hold hG hown hle;go_enter Tryz.func174,Tryz.ntmps174;go_wp2_with (at_builtin;refine Lib.wpList_append_run _ rfl _ _ _ _ rfl _ _ rfl rfl _ _ (Gj _) ?_)
 all_goals (go_ret;exact⟨_,rfl,HOWN.out _ (by simp only[Array.size_append,size_zeroCells,List.size_toArray,List.length_cons,List.length_nil];omega),uZ⟩)
def SE(w:YA)(n m:Nat)(s3 gB:Value)(wr:YA):Prop:=∃j:Nat,j<=2/\gB=Yp Yv j/\s3=Yp Yv (if j=0 then(0:Int)else if j=1 then(n:Int)else(n:Int)+m)/\w=wr
def G3(w:YA)(f g:List St.It)(s6 Lm:Value)(wr:YA):Prop:=∃j:Nat,j<=2/\Lm=Yp Yv j/\wr.ownsRow w.1.size 36 3 s6 (if j=0 then 0 else if j=1 then f.length else f.length+g.length) (ak (if j=0 then[]else if j=1 then f else f++g))/\ac w wr
theorem NB(A B:Option Addr)(n c m d:Nat)(f g:List St.It)(ab:Nat)(w:YA)(hn:f.length=n)(hm:g.length=m)(hA:A=none->n=0/\c=0)(hB:B=none->m=0/\d=0)(h:aJ w A f)(h':aJ w B g)
  (hab:ab<w.1.size) (g0:w.cell? ⟨ab,0,none⟩=some (Yr A n c)) (g1:w.cell? ⟨ab,1,none⟩=some (Yr B m d)) (hl:n+m<=100000) :
  Calls Tryz.prog 131 #[Yr (some ⟨ab,0,none⟩) 2 2] w λe w'=>∃v,e=Yx v/\w'.ownsRow w.1.size 36 3 v (f++g).length (ak (f++g))/\ac w w':=by
 have H:=aa h;have H':=aa h';have HG:=aa (MF (n+m) w (by omega));have HA:=aa hA;have HB:=aa hB;have hc:((n+m:Nat):Int)=(n:Int)+m:=by omega
 rw[hc]at HG;haveI:af ab w:=af.of hab;clear h h' hA hB hc;subst hn hm;go_enter Tryz.func131,Tryz.ntmps131;go_wp2_with fail;go_loopw [3,11] (λs3 gB wr=>SE w f.length g.length s3 gB wr) (λ_ gB _=>3-(intOf gB).toNat)
 case atStart=>exact⟨0,by omega,rfl,rfl,rfl⟩
 case round=>
  obtain⟨j,hj,rfl,hs3,rfl⟩:=hrel;rcases(show j=0\/j=1\/j=2 by omega)with rfl|rfl|rfl
  ·obtain rfl:=hs3;have y1:¬((0:Int)+(f.length:Int)<0):=by omega
   have y2:¬((f.length:Int)<0):=by omega
   go_wp2;exact⟨⟨1,by omega,rfl,by first|rfl|(simp;done),rfl⟩,by simp[intOf]⟩
  ·obtain rfl:=hs3;simp only[if_neg (show ¬(1:Nat)=0 by omega),if_true];have y1:¬((f.length:Int)+(g.length:Int)<0):=by omega
   go_wp2;exact⟨⟨2,by omega,rfl,by first|rfl|(simp;done),rfl⟩,by simp[intOf]⟩
  obtain rfl:=hs3;simp only[if_neg (show ¬(2:Nat)=0 by omega),if_neg (show ¬(2:Nat)=1 by omega)];go_wp2_with fail;refine HG.out.mono ?_;rintro e w2 ⟨v,rfl,ho,hu⟩;have HO:=aa ho;have HU:=aa hu;obtain⟨AO,cO,rfl,_⟩:=aI ho;clear ho hu HG;go_wp2_with fail;go_loopw [6,27] (λs6 Lm wr=>G3 w f g s6 Lm wr) (λ_ Lm _=>3-(intOf Lm).toNat)
  case atStart=>exact⟨0,by omega,rfl,HO.out,HU.out⟩
  case round=>
   clear HO HU;obtain⟨j,hj,rfl,ho,hu⟩:=hrel;have HU:=aa hu;have hsz:=hu.size;have e0:=(hu.cell (p:=⟨ab,0,none⟩) hab).trans g0;have e1:=(hu.cell (p:=⟨ab,1,none⟩) hab).trans g1;haveI:af ab wr:=af.of (Nat.lt_of_lt_of_le hab hsz);clear hu;rcases(show j=0\/j=1\/j=2 by omega)with rfl|rfl|rfl
   ·have HO:=aa ho;obtain⟨A1,c1,rfl,_⟩:=aI ho;clear ho;go_wp2_with (at_builtin;refine gV rfl _ _ rfl w.1.size _ 0 [] rfl HO.out A f.length c f rfl HA.out (H.out.ai HU.out) rfl (by omega) hsz ?_);intro v' w4 kW hg4;have HE:=aa (show G3 w f g v' (Yp Yv 1) w4 from⟨1,by omega,rfl,by simpa using kW,HU.out.grown hg4 (λx hx=>aD HO.out x hx)⟩);clear kW hg4;go_wp2;exact⟨HE.out,by simp[intOf]⟩
   ·have ee:wr.ownsRow w.1.size 36 3 _ f.length (ak f):=ho;have HO:=aa ee;obtain⟨A1,c1,rfl,_⟩:=aI ee;clear ho ee;go_wp2_with (at_builtin;refine gV rfl _ _ rfl w.1.size _ f.length f rfl HO.out B g.length d g rfl HB.out (H'.out.ai HU.out) rfl (by omega) hsz ?_);intro v' w4 kW hg4;have HE:=aa (show G3 w f g v' (Yp Yv 2) w4 from⟨2,by omega,rfl,kW,HU.out.grown hg4 (λx hx=>aD HO.out x hx)⟩);clear kW hg4;go_wp2;exact⟨HE.out,by simp[intOf]⟩
   have ee:wr.ownsRow w.1.size 36 3 _ (f.length+g.length) (ak (f++g)):=ho;have HO:=aa ee;obtain⟨A1,c1,rfl,_⟩:=aI ee;clear ho ee;go_wp2;go_ret;exact⟨_,rfl,by rw[List.length_append];exact HO.out,HU.out⟩
set_option maxRecDepth 100000 in
theorem wl(A B:Option Addr)(n c m d:Nat)(f g:List St.It)(w:YA)(hn:f.length=n)(hm:g.length=m)(hA:A=none->n=0/\c=0)(hB:B=none->m=0/\d=0)(h:aJ w A f)(h':aJ w B g)(hl:n+m<=100000)(ht:aY (f++g)<=1000000000000) :
  Calls Tryz.prog 98 #[Yr A n c,Yr B m d] w λe w'=>∃v,e=Yx v/\w'.ownsRow w.1.size 36 3 v (St.bI (f++g)).length (ak (St.bI (f++g)))/\ac w w':=by
 have hsc:=λ(W:YA) (ab:Nat) (hW:ac w W) (hab:ab<W.1.size) (g0:W.cell? ⟨ab,0,none⟩=some (Yr A n c)) (g1:W.cell? ⟨ab,1,none⟩=some (Yr B m d))=>NB A B n c m d f g ab W hn hm hA hB (h.ai hW) (h'.ai hW) hab g0 g1 hl
 have hlen:(f++g).length<=1000000:=by rw[List.length_append];omega
 have hno:=λ(A:Option Addr) (c:Nat) (W:YA) (h:aJ W A (f++g))=>Bo A (f++g).length c (f++g) W rfl h hlen ht
 generalize f++g=F at hsc hno |-;have V1:=aa hsc;have HN:=aa hno;clear h h' hsc hno hA hB hlen ht hl;go_enter Tryz.func98,Tryz.ntmps98;go_wp2_with fail;refine(V1.out _ _ uZ (by simp) (by simp) (by simp)).mono ?_;rintro e w2 ⟨v,rfl,ho,hu⟩;obtain⟨AO,cO,rfl,_⟩:=aI ho;have hno:=HN.out AO cO w2 (a7 ho rfl);have kU:=aa hno;have HU:=aa (show ac w w2 from ac.trans (uZ) hu);clear hno ho hu;go_wp2_with fail;refine kU.out.mono ?_;rintro e w3 ⟨v3,rfl,cZ,hu3⟩;have HE:=aa (And.intro (cT cZ HU.out.size) (HU.out.trans hu3));clear cZ hu3;go_wp2;go_ret;exact⟨_,rfl,HE.out.1,HE.out.2⟩
end
section
theorem P2(a b:Nat)(f:List St.It)(k:Nat)(h:k<f.length):St.aR a b 0 (f.take (k+1))=St.aR a b 0 (f.take k)++St.aR a b (St.aA (f.take k)) [f[k]]:=by
 rw[List.take_add_one,List.getElem?_eq_getElem h];have:=St.vH a b (f.take k) f[k] 0
 rw[Nat.zero_add]at this;exact this
theorem yG(a b:Nat)(f:List St.It):∀at',(St.aR a b at' f).length<=f.length:=by
 induction f with
 | nil=>intro at';simp[St.aR]
 | cons x f ih=>
  intro at';rw[St.aR,List.length_append];have:=ih (at'+St.aV x)
  have h1:(if x.1=1 then(if max a at' - at'<min b (at'+x.2.1.length)-at' then[((1:Int),(x.2.1.take (min b (at'+x.2.1.length)-at')).drop (max a at' - at'),x.2.2)]else[])else(if a<=at'/\at'<b then[x]else[])).length<=1:=by
   repeat' split
   all_goals simp
  simp only[List.length_cons];omega
theorem Pu(f:List St.It)(k:Nat)(h:k<f.length):St.aA (f.take (k+1))=St.aA (f.take k)+St.aV f[k]:=by
 rw[List.take_add_one,List.getElem?_eq_getElem h];exact St.gM _ _
theorem IK(f:List St.It)(k:Nat):St.aA (f.take k)<=St.aA f:=by
 have e:St.aA f=St.aA (f.take k)+St.aA (f.drop k):=by
  conv=>lhs;rw[<-List.take_append_drop k f]
  unfold St.aA;rw[List.map_append,List.sum_append]
 omega
theorem Sk(a b m:Nat)(kd id:Int)(tx:List UInt8){lo hi:Nat}(h1:lo=max a m)(h2:hi=min b (m+St.aV (kd,tx,id))) :
  St.aR a b m [(kd,tx,id)]=if lo<hi then(if kd=1 then[(1,(tx.take (hi-m)).drop (lo-m),id)]else[(kd,tx,id)])else[]:=by
 unfold St.aR St.aR St.aV at *;simp only[List.append_nil]at *
 by_cases hk:kd=1
 ·rw[if_pos hk]at h2;simp only[if_pos hk,<-h1,<-h2]
  by_cases hl:lo<hi
  ·rw[if_pos (by omega),if_pos hl]
  rw[if_neg (by omega),if_neg hl]
 rw[if_neg hk]at h2;simp only[if_neg hk]
 by_cases hl:lo<hi
 ·rw[if_pos (by omega),if_pos hl]
 rw[if_neg (by omega),if_neg hl]
def Ci(w:YA)(a b:Nat)(f:List St.It)(n:Nat)(s8 s9 Lo:Value)(wr:YA):Prop:=
 ∃k:Nat,k<=n/\Lo=Yp Yv k/\s9=Yp Yv (St.aA (f.take k):Nat)/\wr.ownsRow w.1.size 36 3 s8 (St.aR a b 0 (f.take k)).length (ak (St.aR a b 0 (f.take k)))/\ac w wr
theorem IE(A:Option Addr)(n c:Nat)(f:List St.It)(a b:Nat)(w:YA)(hn:f.length=n)(h:aJ w A f)(hl:n<=100000)(ht:aY f<=1000000000000)(hab:a<=b)(hbl:b<=St.aA f) :
  Calls Tryz.prog 97 #[Yr A n c,Yp Yv a,Yp Yv b] w λe w'=>∃v,e=Yx (Yu #[v,Ys true])/\w'.ownsRow w.1.size 36 3 v (St.aR a b 0 f).length (ak (St.aR a b 0 f))/\ac w w':=by
 have H:=aa h;have HN:=aa hn;have hle:=aa (li A n c f w hn h (by omega) (by omega));have tC:=aa (show St.aA f<=2000000000000 by have:=gv f;omega);obtain⟨i0,hi,hz0,hz1,hz2⟩:=info_parts dM;have y1:¬(a:Int)<0:=by omega
 have y2:¬(b:Int)<(a:Int):=by omega
 have y3:¬((St.aA f:Nat):Int)<(b:Int):=by omega
 have y4:¬St.aA f<b:=by omega
 clear h hn;go_enter Tryz.func97,Tryz.ntmps97;go_wp2_with fail;refine hle.out.mono ?_;rintro e w1 ⟨rfl,hu1⟩;have iI:=aa hu1;clear hu1 hle;go_wp2_with fail;go_loopw [8,9,30] (λs8 s9 Lo wr=>Ci w a b f n s8 s9 Lo wr) (λ_ _ Lo _=>n+1-(intOf Lo).toNat)
 case atStart=>exact⟨0,by omega,rfl,rfl,World.ownsRow_nil _ _ _ _,iI.out⟩
 case round=>
  obtain⟨k,hk,rfl,rfl,hown,hu⟩:=hrel;have HU:=aa hu;have HO:=aa hown;have hsz:=hu.size;clear hu y1 y2 y3 y4;have hN:=HN.out
  by_cases hlt:k<n
  ·clear hown;have aO:k<f.length:=by omega
   obtain⟨g,off,rfl,hg,hc⟩:=(H.out.ai HU.out) (by omega);obtain⟨c0,c1,c2⟩:=hc k aO;have hst:=P2 a b f k aO;have hlk:=Pu f k aO;have gf:=IK f (k+1);have hsl:=yG a b (f.take k) 0;have Wl:=tC.out;have hx1:=LR f k aO;have hx2:=uS f (k+1);generalize f[k]=x at c0 c1 c2 hst hlk hx1;obtain⟨kd,tx,id⟩:=x;simp only at c0 c1 c2 hx1;generalize hO:St.aR a b 0 (f.take k)=O at HO hst hsl;obtain⟨A8,c8,rfl,_,_,hA8⟩:=aW HO.out;have Rd:O.length<=100000:=by simp at hsl;omega
   have htl:(⟨tx.toArray⟩:ByteArray).size=tx.length:=by show tx.toArray.size=_;simp
   obtain⟨m,hm⟩:∃m,m=St.aA (f.take k):=⟨_,rfl⟩;rw[<-hm]at hlk hst |-;obtain⟨lo,hlo⟩:∃lo,lo=max a m:=⟨_,rfl⟩;obtain⟨hi',hhi⟩:∃hi',hi'=min b (m+St.aV (kd,tx,id)):=⟨_,rfl⟩;rw[Sk a b m kd id tx hlo hhi]at hst;have hwd:=aa (λW=>yf kd tx id W);have hwt:kd=1->St.aV (kd,tx,id)=tx.length:=λe=>by unfold St.aV;rw[if_pos e]
   have hw1:St.aV (kd,tx,id)<=tx.length+1:=by unfold St.aV;split<;>simp<;>omega
   generalize St.aV (kd,tx,id)=wd at hwd hlk hhi hwt hw1;obtain⟨N,hNN⟩:∃N,N=m+wd:=⟨_,rfl⟩;have eN:(m:Int)+(wd:Int)=(N:Int):=by omega
   have RA:St.aA (f.take (k+1))=N:=by omega
   have l4:Hid (∀W v,W.ownsRow w.1.size 36 3 v (St.aR a b 0 (f.take (k+1))).length (ak (St.aR a b 0 (f.take (k+1))))->ac w W->Ci w a b f n v (Yp Yv (N:Int)) (Yp Yv ((k:Int)+1)) W):=
    aa λW v h1 h2=>⟨k+1,by omega,congrArg (Yp Yv) (by omega),by rw[RA],h1,h2⟩
   haveI:af g wr:=af.of hg;rw[<-hNN]at hhi;have hNb:N<=2000000000000:=by omega
   have HST:=aa hst;have Wc:=aa hwt;have XF:max (a:Int) (m:Int)=(lo:Int):=by omega
   have XE:min (b:Int) (N:Int)=(hi':Int):=by omega
   clear hc aO hst RA hlk hwt hm hNN;go_wp2_with fail;refine(hwd.out _).mono ?_;rintro e w3 ⟨rfl,hu3⟩;have cI:ac wr w3:=ac.trans (uZ) hu3;have hb3:=(hu3.below.block wr.1.size (by simp)).trans (heap_alloc_new wr (.cells #[Yp Yv kd,Yq ⟨tx.toArray⟩,Yp Yv id] 36));have d0:w3.cell? ⟨wr.1.size,0,none⟩=some (Yp Yv kd):=aj hb3 0;have d1:w3.cell? ⟨wr.1.size,1,none⟩=some (Yq ⟨tx.toArray⟩):=aj hb3 1;have d2:w3.cell? ⟨wr.1.size,2,none⟩=some (Yp Yv id):=aj hb3 2;have f1:w3.frozen? ⟨wr.1.size,1,none⟩=false:=bu hb3 1;haveI:af wr.1.size w3:=af.of (ae hb3);have bm:=aa (HU.out.trans cI);have ft:=aa (aH cI HO.out);have pN:=aa hb3;have RU:=bm.out.size;clear hu3 cI hb3 c0 c1 c2 hwd;generalize dj:wr.1.size=bx at *;have Vr:w.1.size<=bx:=by omega
   have lz:∀v,ac w (w3.setCell ⟨bx,1,none⟩ v):=λv=>ac.mk (bm.out.below.setCell Vr v)
   have sa:∀v,(w3.setCell ⟨bx,1,none⟩ v).ownsRow w.1.size 36 3 (Yr A8 O.length c8) O.length (ak O):=λv=>aC ft.out (λe=>by have:=(HO.out.lt _ e).2;omega)
   by_cases hll:lo<hi'
   ·have HS:=HST.out;rw[if_pos hll]at HS;have zl:(lo:Int)<(hi':Int):=by omega
    by_cases dr:kd=1
    ·subst dr;rw[if_pos rfl]at HS;have WE:=Wc.out rfl;obtain⟨p,hp⟩:∃p,p=lo-m:=⟨_,rfl⟩;obtain⟨q,hq⟩:∃q,q=hi' - m:=⟨_,rfl⟩;rw[<-hp,<-hq]at HS;have e1:(lo:Int)-(m:Int)=(p:Int):=by omega
     have e2:(hi':Int)-(m:Int)=(q:Int):=by omega
     have z2:(0:Int)<=(p:Int):=by omega
     have z3:(p:Int)<=(q:Int):=by omega
     have z4:(q:Int)<=(tx.length:Int):=by omega
     obtain⟨sx,uo⟩:∃sx:ByteArray,(⟨tx.toArray⟩:ByteArray).extract p q=sx:=⟨_,rfl⟩;have hsl:(tx.take q).drop p=sx.1.1:=by rw[<-uo,Lib.extract_data,List.drop_take]
     rw[hsl]at HS;have dB:=aa HS;have Xq:(⟨tx.toArray⟩:ByteArray).extract (max a m-m) (min b N-m)=sx:=by rw[<-hlo,<-hhi,<-hp,<-hq];exact uo
     have hfin:∀v' w4,w4.ownsRow w.1.size 36 3 v' (O.length+1) (ak O++[Yp Yv 1,Yq sx,Yp Yv id])->ac w w4->Ci w a b f n v' (Yp Yv (N:Int)) (Yp Yv ((k:Int)+1)) w4:=λv' w4 h1 h2=>
      l4.out w4 v' (by rw[dB.out,bM,List.length_append,List.length_singleton,bo];exact h1) h2
     have dA:=aa hfin;have CM:=aa (And.intro lz sa);clear hfin HS hsl lz sa dB WE hp hq;go_wp2_with (at_builtin;refine wpList_append_own _ rfl _ _ 37 rfl w.1.size 36 i0 (.agg #[.int .i64 0,.string ⟨#[]⟩,.int .i64 0]) 3 32 Tryz.underlying37 hi hz0 hz1 hz2 rfl (by decide) (.slice A8 O.length c8) O.length _ rfl ((CM.out.2 _).alloc _) _ 1 1 [.int .i64 1,.string sx,.int .i64 id] rfl rfl ?_ (cX _ _ _) (by unfold maxLen;omega) (by omega) ?_ ?_)
     all_goals try exact eL _ _ _ _ _ _ (by first|rfl|(simp;done))
     all_goals try (simp;omega;done)
     intro v' w4 hown' hgrow _;have HE:=aa (dA.out v' w4 hown' (((CM.out.1 _).alloc _).grown hgrow (λg hg=>aD ft.out g hg)));clear hown' hgrow;go_wp2;exact⟨HE.out,by simp[intOf];omega⟩
    rw[if_neg dr]at HS;have q1:(kd==1)=false:=by simpa using dr
    have dB:=aa HS
    have hfin:∀v' w4,w4.ownsRow w.1.size 36 3 v' (O.length+1) (ak O++[Yp Yv kd,Yq ⟨tx.toArray⟩,Yp Yv id])->ac w w4->Ci w a b f n v' (Yp Yv (N:Int)) (Yp Yv ((k:Int)+1)) w4:=λv' w4 h1 h2=>
     l4.out w4 v' (by rw[dB.out,bM,List.length_append,List.length_singleton];exact h1) h2
    have dA:=aa hfin;clear hfin HS lz sa dB dr;go_wp2_with (at_builtin;refine wpList_append_own _ rfl _ _ 37 rfl w.1.size 36 i0 (.agg #[.int .i64 0,.string ⟨#[]⟩,.int .i64 0]) 3 32 Tryz.underlying37 hi hz0 hz1 hz2 rfl (by decide) (.slice A8 O.length c8) O.length _ rfl (ft.out.alloc _) _ 1 1 [.int .i64 kd,.string ⟨tx.toArray⟩,.int .i64 id] rfl rfl ?_ (cX _ _ _) (by unfold maxLen;omega) (by omega) ?_ ?_)
    all_goals try exact eL _ _ _ _ _ _ (by first|rfl|(simp;done))
    all_goals try (simp;omega;done)
    intro v' w4 hown' hgrow _;have HE:=aa (dA.out v' w4 hown' ((bm.out.alloc _).grown hgrow (λg hg=>aD ft.out g hg)));clear hown' hgrow;go_wp2;exact⟨HE.out,by simp[intOf];omega⟩
   have HS:=HST.out;rw[if_neg hll,List.append_nil]at HS;have zl:¬(lo:Int)<(hi':Int):=by omega
   have dA:=aa (l4.out w3 (Yr A8 O.length c8) (by rw[HS];exact ft.out) bm.out);clear HS lz sa hlo hhi;go_wp2;exact⟨dA.out,by simp[intOf];omega⟩
  have hkn:k=n:=by omega
  subst hkn;have hft:f.take k=f:=List.take_of_length_le (by omega);rw[hft]at hown;have j4:=aa hown;clear hlt hft hown HO;go_wp2;go_ret2;exact⟨_,rfl,j4.out,HU.out⟩
end
section
theorem EO(A B:Option Addr)(n m c d:Nat)(f g:List St.It)(w:YA)(hn:f.length=n)(hm:g.length=m)(hc:n<=c)(hd:m<=d)(dq:c<=9223372036854775807)(fq:d<=9223372036854775807)(hA:aJ w A f)(hB:aJ w B g) :
  Calls Tryz.prog 93 #[Yr A n c,Yr B m d] w λe w'=>e=Yx (Ys (decide (f=g)))/\ac w w':=by
 by_cases bh:n=m
 ·subst bh;have HA:=aa hA;have HB:=aa hB;have HN:=aa hn;have HM:=aa hm;clear hA hB hn hm;go_enter Tryz.func93,Tryz.ntmps93;go_wp2;go_loopw [13] (λi wr=>Ck w f g n i wr) (λi _=>n+1-(intOf i).toNat)
  case atStart=>exact⟨0,by omega,rfl,rfl,ac.refl _⟩
  case round=>
   obtain⟨k,hk,rfl,hs,hu⟩:=hrel;have HU:=aa hu;have HS:=aa hs;clear hu hs
   by_cases hlt:k<n
   ·have hk1:k<f.length:=by rw[HN.out];exact hlt
    have hk2:k<g.length:=by rw[HM.out];exact hlt
    obtain⟨b,o,rfl,hb,hc1⟩:=(HA.out.ai HU.out) (by omega);obtain⟨b',o',rfl,hb',hc2⟩:=(HB.out.ai HU.out) (by omega);obtain⟨h1,h2,h3⟩:=hc1 k hk1;obtain⟨h1',h2',h3'⟩:=hc2 k hk2;have hst:=aa (λe=>qu HS.out hk1 hk2 e);have hne:f[k]≠g[k]->f≠g:=λh e=>h (by subst e;rfl)
    have gK:=aa hne;generalize f[k]=x at h1 h2 h3 hst gK;generalize g[k]=y at h1' h2' h3' hst gK;obtain⟨xk,xt,xi⟩:=x;obtain⟨yk,yt,yi⟩:=y;simp only at h1 h2 h3 h1' h2' h3';haveI:af b wr:=af.of hb;haveI:af b' wr:=af.of hb';clear hc1 hc2 hk1 hk2 hne;cases he:Ou (xk,xt,xi) (yk,yt,yi)
    ·have hF:=aa (gK.out (of_decide_eq_false he));go_wp2_with fail;go_quiet (fail);go_wp2;go_ret;refine⟨az (decide_eq_false hF.out).symm,uZ⟩
    have hF:=aa (hst.out (of_decide_eq_true he));go_wp2_with fail;go_quiet (fail);go_wp2;refine⟨⟨k+1,by omega,rfl,hF.out,HU.out.trans uZ⟩,by simp[intOf];omega⟩
   obtain rfl:k=n:=by omega
   have hF:=aa (sL HS.out HN.out HM.out);clear hlt;go_wp2;go_ret;exact⟨az (decide_eq_true hF.out).symm,HU.out⟩
 have hF:=aa (show ¬f=g from λe=>bh (by rw[<-hn,<-hm,e]));have z:((n:Int)==(m:Int))=false:=by simp;omega
 clear hA hB hn hm;go_enter Tryz.func93,Tryz.ntmps93;go_wp2;go_ret;exact⟨az (decide_eq_false hF.out).symm,ac.refl _⟩
theorem EP(A B:Option Addr)(n m c d:Nat)(f g:List St.Pt)(w:YA)(hn:f.length=n)(hm:g.length=m)(hc:n<=c)(hd:m<=d)(dq:c<=9223372036854775807)(fq:d<=9223372036854775807)(hA:a8 w A f)(hB:a8 w B g) :
  Calls Tryz.prog 62 #[Yr A n c,Yr B m d] w λe w'=>e=Yx (Ys (decide (f=g)))/\ac w w':=by
 by_cases bh:n=m
 ·subst bh;have HA:=aa hA;have HB:=aa hB;have HN:=aa hn;have HM:=aa hm;clear hA hB hn hm;go_enter Tryz.func62,Tryz.ntmps62;go_wp2;go_loopw [13] (λi wr=>Ck w f g n i wr) (λi _=>n+1-(intOf i).toNat)
  case atStart=>exact⟨0,by omega,rfl,rfl,ac.refl _⟩
  case round=>
   obtain⟨k,hk,rfl,hs,hu⟩:=hrel;have HU:=aa hu;have HS:=aa hs;clear hu hs
   by_cases hlt:k<n
   ·have hk1:k<f.length:=by rw[HN.out];exact hlt
    have hk2:k<g.length:=by rw[HM.out];exact hlt
    obtain⟨b,o,rfl,hb,hc1⟩:=(HA.out.ai HU.out) (by omega);obtain⟨b',o',rfl,hb',hc2⟩:=(HB.out.ai HU.out) (by omega);obtain⟨h1,h2,h3⟩:=hc1 k hk1;obtain⟨h1',h2',h3'⟩:=hc2 k hk2;have hst:=aa (λe=>qu HS.out hk1 hk2 e);have hne:f[k]≠g[k]->f≠g:=λh e=>h (by subst e;rfl)
    have gK:=aa hne;generalize f[k]=x at h1 h2 h3 hst gK;generalize g[k]=y at h1' h2' h3' hst gK;obtain⟨xk,xt,xi⟩:=x;obtain⟨yk,yt,yi⟩:=y;simp only at h1 h2 h3 h1' h2' h3';haveI:af b wr:=af.of hb;haveI:af b' wr:=af.of hb';clear hc1 hc2 hk1 hk2 hne;cases he:Ov (xk,xt,xi) (yk,yt,yi)
    ·have hF:=aa (gK.out (of_decide_eq_false he));go_wp2_with fail;go_quiet (fail);go_wp2;go_ret;refine⟨az (decide_eq_false hF.out).symm,uZ⟩
    have hF:=aa (hst.out (of_decide_eq_true he));go_wp2_with fail;go_quiet (fail);go_wp2;refine⟨⟨k+1,by omega,rfl,hF.out,HU.out.trans uZ⟩,by simp[intOf];omega⟩
   obtain rfl:k=n:=by omega
   have hF:=aa (sL HS.out HN.out HM.out);clear hlt;go_wp2;go_ret;exact⟨az (decide_eq_true hF.out).symm,HU.out⟩
 have hF:=aa (show ¬f=g from λe=>bh (by rw[<-hn,<-hm,e]));have z:((n:Int)==(m:Int))=false:=by simp;omega
 clear hA hB hn hm;go_enter Tryz.func62,Tryz.ntmps62;go_wp2;go_ret;exact⟨az (decide_eq_false hF.out).symm,ac.refl _⟩
theorem KU(A B:Option Addr)(n m c d:Nat)(f g:List St.It)(w:YA)(hn:f.length=n)(hm:g.length=m)(hc:n<=c)(hd:m<=d)(dq:c<=9223372036854775807)(fq:d<=9223372036854775807)(h:aJ w A f)(h':aJ w B g) :
  Calls Tryz.prog 52 #[Yr A n c,Yr B m d] w λe w'=>e=Yx (Ys (decide (f=g)))/\ac w w':=by
 have HS:=aa (EO A B n m c d f g w hn hm hc hd dq fq h h');clear h h';go_enter Tryz.func52,Tryz.ntmps52;go_wp2_with fail;refine HS.out.mono ?_;rintro e w' ⟨rfl,hu⟩;have HU:=aa hu;clear hu;go_wp2;go_ret;exact⟨rfl,HU.out⟩
end
end Go.Proofs.YthoemdibbldndaaGreatDoor
namespace Go.Proofs.YthoemdibbldndaaGreatDoor.Mz
open Go.RowKit
def sY:Nat->List (Int × Value)->List MapEntry
 | _,[]=>[]
 | n,p :: l=>{ key:=Yp Yv p.1,val:=p.2,born:=n } :: sY (n+1) l
theorem Df(p:Int × Value):∀(l:List (Int × Value)) (n:Nat),sY n (l++[p])=sY n l++[{ key:=Yp Yv p.1,val:=p.2,born:=n+l.length }]
 | [],n=>by simp[sY]
 | q :: l,n=>by
  simp only[List.cons_append,sY,Df p l (n+1),List.length_cons];rw[show n+1+l.length=n+(l.length+1)by omega]
def look(k:Int):List (Int × Value)->Option Value
 | []=>none
 | p :: l=>if k=p.1 then some p.2 else look k l
theorem KY(k:Int)(p:Int × Value)(l:List (Int × Value)):look k (l++[p])=match look k l with
  | some v=>some v
  | none=>if k=p.1 then some p.2 else none:=by
 induction l with
 | nil=>rfl
 | cons q l ih=>
  rw[List.cons_append,look,look]
  split
  ·rfl
  exact ih
theorem Br(k:Int)(l:List Int):look k (l.map λi=>(i,Ys true))=if k∈l then some (Ys true)else none:=by
 induction l with
 | nil=>rfl
 | cons i l ih=>
  rw[List.map_cons,look]
  by_cases h:k=i
  ·rw[if_pos h,if_pos (by simp[h])]
  rw[if_neg h,ih];simp[h]
theorem tW(k:Int):∀(l:List (Int × Value)) (n i:Nat),look k l=none->Instr.findNow (.int .i64) (.int .i64 k) (sY n l) i=some none
 | [],n,i,_=>rfl
 | p :: l,n,i,h=>by
  unfold look at h
  by_cases e:k=p.1
  ·rw[if_pos e]at h;simp at h
  rw[if_neg e]at h;have e':(k==p.1)=false:=by simpa using e
  simp only[sY,Instr.findNow,Instr.sameNow,if_true,e'];exact tW k l _ _ h
theorem AU(k:Int)(v:Value):∀(l:List (Int × Value)) (n i:Nat),look k l=some v->∃j,Instr.findNow (.int .i64) (.int .i64 k) (sY n l) i=some (some (j,v))
 | [],n,i,h=>by simp[look]at h
 | p :: l,n,i,h=>by
  unfold look at h
  by_cases e:k=p.1
  ·rw[if_pos e]at h;obtain rfl:p.2=v:=by simpa using h
   have e':(k==p.1)=true:=by simpa using e
   exact⟨i,by simp only[sY,Instr.findNow,Instr.sameNow,if_true,e']⟩
  rw[if_neg e]at h;have e':(k==p.1)=false:=by simpa using e
  obtain⟨j,hj⟩:=AU k v l (n+1) (i+1) h;exact⟨j,by simp only[sY,Instr.findNow,Instr.sameNow,if_true,e'];exact hj⟩
def At(w:YA)(mb:Nat)(l:List (Int × Value)):Prop:=w.1[mb]?=some (.map (sY 0 l).toArray l.length)
def put(w:YA)(mb:Nat)(l:List (Int × Value)):YA:={ w with heap:=w.heap.setIfInBounds mb (.map (sY 0 l).toArray l.length) }
theorem At.lt{w:YA}{mb:Nat}{l:List (Int × Value)}(h:At w mb l):mb<w.1.size:=ae h
theorem At.ai{a c:YA}{mb:Nat}{l:List (Int × Value)}(h:At a mb l)(u:ac a c):At c mb l:=(u.below.block mb h.lt).trans h
theorem Eu(w:YA){mb b:Nat}(l:List (Int × Value))(h:b≠mb):(put w mb l).1[b]?=w.1[b]?:=by
 show(w.heap.setIfInBounds mb _)[b]?=_
 rw[Array.getElem?_setIfInBounds_ne (Ne.symm h)]
theorem Ld{w:YA}{mb:Nat}{l0:List (Int × Value)}(h:At w mb l0)(l:List (Int × Value)):At (put w mb l) mb l:=by
 show(w.heap.setIfInBounds mb _)[mb]?=_
 have:=h.lt
 simp[this]
theorem Nl(w:YA)(mb:Nat)(l:List (Int × Value)):(put w mb l).1.size=w.1.size:=by
 show(w.heap.setIfInBounds mb _).size=_;simp
theorem GC{w W:YA}{mb:Nat}(l:List (Int × Value))(h:ac w W)(hb:w.1.size<=mb):ac w (put W mb l):=by
 have b:=h.below;exact ac.mk ⟨b.os,b.tape,b.output,by rw[Nl];exact b.size,λk hk=>(Eu W l (by omega)).trans (b.block k hk)⟩
theorem PG{W:YA}{mb B e size n:Nat}{v:Value}{xs:List Value}{l0:List (Int × Value)}(l:List (Int × Value))(h:W.ownsRow B e size v n xs)(ha:At W mb l0):(put W mb l).ownsRow B e size v n xs:=by
 refine⟨h.1,?_⟩;rcases h.2 with h0|⟨g,cap,cur,rfl,hb,hg,hr⟩
 ·exact .inl h0
 refine .inr ⟨g,cap,cur,rfl,hb,(Eu W l λe=>?_).trans hg,hr⟩;subst e;rw[ha]at hg;cases hg
theorem wa{w w':YA}{mb B e size n:Nat}{v:Value}{xs:List Value}{l:List (Int × Value)}(h:At w mb l)(hg:w.grownBy w' v.ownBlock)(ho:w.ownsRow B e size v n xs):At w' mb l:=by
 refine(hg.block mb h.lt λe=>?_).trans h;rcases ho.2 with⟨rfl,_⟩|⟨g,cap,cur,rfl,_,hgb,_⟩
 ·simp[Value.ownBlock]at e
 simp only[Value.ownBlock,Option.some.injEq]at e;subst e;rw[h]at hgb;cases hgb
section
variable {T et:TypeId} (hm:Tryz.prog.underlying T=some (.map 3 et))
include hm
theorem GL{w:YA}{mb:Nat}{l:List (Int × Value)}{k:Int}(v:Value)(ha:At w mb l)(h:look k l=none) :
  (Instr.mapUpdate T (.map (some mb)) (Yp Yv k) v).run Tryz.prog w=.ok () (put w mb (l++[(k,v)])):=by
 have hd:Tryz.prog.underlying 3=some (.int .i64):=by kernel_rfl
 have hf:=tW k l 0 0 h;have hk:MapKept.IsKey (.int .i64) (.int .i64 k):=by simp[MapKept.IsKey]
 simp[Instr.mapUpdate,run_underlying hm,MapKept.run_getObj_map ha,MapKept.run_checkKey hd hk,MapKept.run_findKey hd hf,MapKept.run_setObj_map _ ha,Result.andThen];simp[put,Df]
theorem run_get{w:YA}{mb:Nat}{l:List (Int × Value)}{k:Int}{v:Value}(ok:Bool)(ha:At w mb l)(h:look k l=some v) :
  (Instr.lookup T (.map (some mb)) (Yp Yv k) ok).run Tryz.prog w=.ok (if ok then Yu #[v,Ys true]else v) w:=by
 have hd:Tryz.prog.underlying 3=some (.int .i64):=by kernel_rfl
 obtain⟨j,hf⟩:=AU k v l 0 0 h;have hk:MapKept.IsKey (.int .i64) (.int .i64 k):=by simp[MapKept.IsKey]
 cases ok<;>simp[Instr.lookup,run_underlying hm,MapKept.run_getObj_map ha,MapKept.run_checkKey hd hk,MapKept.run_findKey hd hf,Result.andThen]
theorem Ll{w:YA}{mb:Nat}{l:List (Int × Value)}{k:Int}{z:Value}(ok:Bool)(hz:(zeroValue et).run Tryz.prog w=.ok z w)(ha:At w mb l)(h:look k l=none) :
  (Instr.lookup T (.map (some mb)) (Yp Yv k) ok).run Tryz.prog w=.ok (if ok then Yu #[z,Ys false]else z) w:=by
 have hd:Tryz.prog.underlying 3=some (.int .i64):=by kernel_rfl
 have hf:=tW k l 0 0 h;have hk:MapKept.IsKey (.int .i64) (.int .i64 k):=by simp[MapKept.IsKey]
 cases ok<;>simp[Instr.lookup,run_underlying hm,MapKept.run_getObj_map ha,MapKept.run_checkKey hd hk,MapKept.run_findKey hd hf,hz,Result.andThen]
end
end Go.Proofs.YthoemdibbldndaaGreatDoor.Mz
namespace Go.Proofs.YthoemdibbldndaaGreatDoor
open Go.RowKit
section
def zc(l:List Int):List Value:=l.map (Yp Yv)
theorem Qd(l:List Int)(i:Int):zc (l++[i])=zc l++[Yp Yv i]:=by simp[zc]
theorem Sv{w:YA}{B n c:Nat}{A:Option Addr}{zs:List Int}(h:w.ownsRow B 3 1 (Yr A n c) n (zc zs))(hn:zs.length=n):fu w A zs:=by
 intro h0;obtain⟨g,rfl,_,hg,hc⟩:=eE h (by omega);refine⟨g,0,rfl,hg,λi hi=>?_⟩;rw[Nat.zero_add];exact hc i _ (by unfold zc;rw[List.getElem?_map,List.getElem?_eq_getElem hi];simp[List.getD_eq_getElem?_getD,hi])
theorem R4(f:List St.It)(k:Nat)(h:k<f.length):(f.take (k+1)).foldl St.fo []=St.fo ((f.take k).foldl St.fo []) f[k]:=by
 rw[List.take_add_one,List.getElem?_eq_getElem h,List.foldl_append];rfl
def Og(w:YA)(f:List St.It)(n mb:Nat)(s3 dy:Value)(wr:YA):Prop:=
 ∃(k:Nat) (l:List Int),k<=n/\dy=Yp Yv k/\l=(f.take k).foldl St.fo []/\l.length<=k/\wr.ownsRow w.1.size 3 1 s3 l.length (zc l)/\Mz.At wr mb (l.map λi=>(i,Ys true))/\ac w wr
theorem M0(A:Option Addr)(n c:Nat)(f:List St.It)(w:YA)(hn:f.length=n)(h:aJ w A f)(hl:n<=100000) :
  Calls Tryz.prog 94 #[Yr A n c] w λe w'=>∃v,e=Yx v/\(St.na f).length<=n/\w'.ownsRow w.1.size 3 1 v (St.na f).length (zc (St.na f))/\ac w w':=by
 have H:=aa h;have HN:=aa hn;obtain⟨ii,ki,kz0,kz1,kz2⟩:=info_parts gQ;have hm:Tryz.prog.underlying 183=some (.map 3 4):=by kernel_rfl
 have hmk:∀W:YA,(Instr.makeMap 183 none).run Tryz.prog W=.ok (.map (some W.1.size)) (W.alloc (.map #[] 0)):=λW=>rfl
 have FJ:=aa hm;have hzb:=aa (λW:YA=>(show(zeroValue 4).run Tryz.prog W=.ok (Ys false) W by go_simp));clear h hn hm;go_enter Tryz.func94,Tryz.ntmps94;go_wp2_with fail;go_loopw [3,10] (λs3 dy wr=>Og w f n w.1.size s3 dy wr) (λ_ dy _=>n+1-(intOf dy).toNat)
 case atStart=>exact⟨0,[],by omega,rfl,rfl,by simp,World.ownsRow_nil _ _ _ _,heap_alloc_new w _,(ac.refl w).alloc _⟩
 case round=>
  obtain⟨k,l,hk,rfl,hle,hll,hown,hat,hu⟩:=hrel;have HU:=aa hu;have hsz:=hu.size;have HOW:=aa hown;have Qg:=aa hat;have Jz:=aa hle;have hN:=HN.out;obtain⟨AO,cO,rfl,_⟩:=aI hown;clear hu hle hown hat hmk
  by_cases hlt:k<n
  ·have aO:k<f.length:=by omega
   obtain⟨b,off,rfl,hb,hc⟩:=(H.out.ai HU.out) (by omega);obtain⟨c0,c1,c2⟩:=hc k aO;have hnt:=R4 f k aO;rw[<-Jz.out]at hnt;generalize f[k]=x at c0 c1 c2 hnt;obtain⟨kd,tx,id⟩:=x;simp only at c0 c1 c2;have hit:=λt W=>se kd t id W
   have n3:=aa hnt;haveI:af b wr:=af.of hb;clear hc aO hnt;cases cW:St.aQ kd
   ·rw[cW]at hit;have HIT:=aa hit;have he:=aa (show St.fo l (kd,tx,id)=l by unfold St.fo;rw[if_neg (by simp[cW])]);clear hit cW;go_wp2_with fail;refine(HIT.out _ _).mono ?_;rintro e w3 ⟨rfl,hu3⟩;have bm:=aa (ac.trans (uZ) hu3:ac wr w3);clear hu3 c0 c1 c2;go_wp2;exact⟨⟨k+1,l,by omega,congrArg (Yp Yv) (by omega),by rw[n3.out,he.out],by omega,aH bm.out HOW.out,Qg.out.ai bm.out,HU.out.trans bm.out⟩,by simp[intOf];omega⟩
   rw[cW]at hit;have HIT:=aa hit;clear hit;go_wp2_with fail;refine(HIT.out _ _).mono ?_;rintro e w3 ⟨rfl,hu3⟩;have cI:ac wr w3:=ac.trans (uZ) hu3;have d2:w3.cell? ⟨wr.1.size,2,none⟩=some (Yp Yv id):=(hu3.cell (p:=⟨wr.1.size,2,none⟩) (by simp)).trans (by simp);haveI:af wr.1.size w3:=af.of (cS _ _ d2);have r6:=Qg.out.ai cI;have UB:=aa r6;have bm:=aa cI;have rO:=aa (aH cI HOW.out);have Vd:=r6.lt;have Xv:w.1.size<wr.1.size:=Qg.out.lt;clear hu3 cI c0 c1 c2
   by_cases hmem:id∈l
   ·have hlk:=Mz.run_get FJ.out false r6 (show Mz.look id _=some (Ys true)by rw[Mz.Br,if_pos hmem]);simp only[Bool.false_eq_true,if_false]at hlk;have he:=aa (show St.fo l (kd,tx,id)=l by unfold St.fo;rw[if_neg (by rintro ⟨_,h⟩;exact h hmem)]);clear hmem cW r6;go_wp2;exact⟨⟨k+1,l,by omega,congrArg (Yp Yv) (by omega),by rw[n3.out,he.out],by omega,rO.out,UB.out,HU.out.trans bm.out⟩,by simp[intOf];omega⟩
   have tj:Mz.look id (l.map λi=>(i,Ys true))=none:=by rw[Mz.Br,if_neg hmem]
   have hlk:=Mz.Ll FJ.out false (hzb.out w3) r6 tj;simp only[Bool.false_eq_true,if_false]at hlk;have hpt:=Mz.GL FJ.out (Ys true) r6 tj;have he:=aa (show St.fo l (kd,tx,id)=l++[id]by unfold St.fo;rw[if_pos ⟨cW,hmem⟩]);have fC:(l.map λi=>(i,Ys true))++[(id,Ys true)]=(l++[id]).map λi=>(i,Ys true):=by simp
   rw[fC]at hpt;obtain⟨w4,hw4⟩:∃w4,w4=Mz.put w3 w.1.size ((l++[id]).map λi=>(i,Ys true)):=⟨_,rfl⟩;have bj:ac w w4:=by rw[hw4];exact Mz.GC _ (HU.out.trans bm.out) (Nat.le_refl _)
   have kW:w4.ownsRow w.1.size 3 1 (Yr AO l.length cO) l.length (zc l):=by rw[hw4];exact Mz.PG _ rO.out r6
   have Rj:Mz.At w4 w.1.size ((l++[id]).map λi=>(i,Ys true)):=by rw[hw4];exact Mz.Ld r6 _
   have m2:w4.cell? ⟨wr.1.size,2,none⟩=some (.int .i64 id):=(World.cell?_of_block (a:=⟨wr.1.size,2,none⟩) (show w4.1[wr.1.size]?=w3.1[wr.1.size]? by rw[hw4];exact Mz.Eu w3 _ (by omega))).trans d2;rw[<-hw4]at hpt;haveI:af wr.1.size w4:=af.of (cS _ _ m2);have ea:=aa bj;have iH:=aa kW;have UC:=aa Rj;have hs4:=bj.size;clear hmem cW r6 tj fC hw4 bj kW Rj;go_wp2_with (at_builtin;refine wpList_append_own _ rfl _ _ 42 rfl w.1.size 3 ii (.int .i64 0) 1 8 Tryz.underlying42 ki kz0 kz1 kz2 rfl (by decide) (.slice AO l.length cO) l.length (zc l) rfl (iH.out.alloc _) _ 1 1 [.int .i64 id] rfl rfl ?_ (by simp;rfl) (by unfold maxLen;omega) (by omega) ?_ ?_)
   ·exact gS _ _ _
   ·simp;omega
   intro v' w5 fh ga _;rw[<-Qd]at fh;have Rk:=Mz.wa (UC.out.ai ((ac.refl w4).alloc (.cells #[Yp Yv id] 3))) ga (iH.out.alloc _);have bt:ac w w5:=(ea.out.alloc _).grown ga (λg hg=>aD iH.out g hg);have HE:=aa (show Og w f n w.1.size v' (Yp Yv ((k:Int)+1)) w5 from⟨k+1,l++[id],by omega,congrArg (Yp Yv) (by omega),by rw[n3.out,he.out],by simp;omega,by rw[List.length_append,List.length_singleton];exact fh,Rk,bt⟩);clear fh ga bt Rk;go_wp2;exact⟨HE.out,by simp[intOf];omega⟩
  have hkn:k=n:=by omega
  subst hkn;have hft:f.take k=f:=List.take_of_length_le (by omega);have hl2:l=St.na f:=by rw[Jz.out,hft];rfl
  subst hl2;clear hlt hft Jz;go_wp2;go_ret;exact⟨_,rfl,hll,HOW.out,HU.out⟩
end
section
theorem K0(N:Nat)(hN:N<=1000000):∃cs:Array Value,(∀W:YA,(Instr.makeSlice 42 (Yp Yv (N:Int)) (Yp Yv (N:Int))).run Tryz.prog W=.ok (Yr (some ⟨W.1.size,0,none⟩) N N) (W.alloc (.cells cs 3)))/\cs.size=N:=by
 obtain⟨i,hi,hz0,hz1,hz2⟩:=info_parts gQ;refine⟨madeCells (Value.cells (Yp Yv 0)) (N*i.size),λW=>?_,?_⟩
 ·have:=run_make (P:=Tryz.prog) W 42 3 i (.int .i64 0) Tryz.underlying42 hi hz0 .i64 .i64 (N:Int) (N:Int) (by omega) (by omega) (by rw[hz2];omega) (by omega)
  simpa using this
 rw[size_madeCells,hz1,Nat.mul_one]
def NT(w:YA)(n:Nat)(s9:Value)(wr:YA):Prop:=
 ∃(i:Nat) (cur:Array Value),s9=Yp Yv i/\i<=n/\wr.1[w.1.size]?=some (.cells cur 3 (0,0))/\cur.size=n/\(∀j,j<i->cur[j]?=some (Yp Yv ((j:Int)+1)))/\ac w wr
theorem GX{q p:Nat}(h:p<q):(St.mF q).getD p 0=(p:Int)+1:=by
 unfold St.mF;rw[List.getD_eq_getElem?_getD,List.getElem?_map,List.getElem?_range h];rfl
theorem IA(n:Nat)(w:YA)(hn:n<=100000) :
  Calls Tryz.prog 96 #[Yp Yv (n:Int)] w λe w'=>∃A c,e=Yx (Yr A n c)/\fu w' A (St.mF n)/\n<=c/\c<=9223372036854775807/\ac w w':=by
 obtain⟨cz,hmk,hcz⟩:=K0 n (by omega);go_enter Tryz.func96,Tryz.ntmps96;go_wp2_with fail;go_loopw [9] (λs9 wr=>NT w n s9 wr) (λs9 _=>n+1-(intOf s9).toNat)
 case atStart=>exact⟨0,cz,rfl,by omega,heap_alloc_new w _,hcz,λj hj=>absurd hj (by omega),(ac.refl w).alloc _⟩
 case round=>
  obtain⟨i,cur,rfl,hi,hh,hc,hj,hu⟩:=hrel;have HU:=aa hu;have HH:=aa hh;have HJ:=aa hj;have HC:=aa hc;haveI:af w.1.size wr:=af.of (ae hh)
  by_cases hlt:i<n
  ·obtain⟨x0,g0⟩:∃x0,wr.cell? ⟨w.1.size,i,none⟩=some x0:=⟨cur[i]'(by omega),by rw[aj hh i,Array.getElem?_eq_getElem]⟩;have f0:wr.frozen? ⟨w.1.size,i,none⟩=false:=bu hh i
   have hfin:=aa (show NT w n (Yp Yv ((i:Int)+1)) (wr.setCell ⟨w.1.size,i,none⟩ (Yp Yv ((i:Int)+1)))from
    ⟨i+1,cur.setIfInBounds i (Yp Yv ((i:Int)+1)),congrArg (Yp Yv) (by omega),by omega,heap_setCell_same wr w.1.size i _ _ _ hh,by simp[hc],λj hj'=>by
     by_cases e:j=i
     ·subst e;rw[Array.getElem?_setIfInBounds_self_of_lt (by omega)]
     rw[Array.getElem?_setIfInBounds_ne (by omega)];exact HJ.out j (by omega),ac.mk (HU.out.below.setCell (p:=⟨w.1.size,i,none⟩) (Nat.le_refl _) _)⟩)
   clear hu hh hj hc;go_wp2;exact⟨hfin.out,by simp[intOf];omega⟩
  obtain rfl:i=n:=by omega
  have hfin:=aa (show fu wr (some ⟨w.1.size,0,none⟩) (St.mF i)from λ_=>⟨w.1.size,0,rfl,ae hh,λj hj'=>by
   rw[St.vl]at hj'
   rw[Nat.zero_add,aj hh j,hj j hj',GX hj']⟩)
  clear hu hh hj hc hlt;go_wp2;go_ret;exact⟨_,_,rfl,hfin.out,Nat.le_refl _,by omega,HU.out⟩
def yT(W:YA)(mb:Nat)(F:List Int)(j:Nat):Prop:=∃l,Mz.At W mb l/\∀i,Mz.look i l=if i∈F.drop j then some (Yp Yv ((F.idxOf i:Int)+1))else none
theorem yT.ai{a c:YA}{mb j:Nat}{F:List Int}(h:yT a mb F j)(u:ac a c):yT c mb F j:=by
 obtain⟨l,h1,h2⟩:=h;exact⟨l,h1.ai u,h2⟩
def Oi(w:YA)(F:List Int)(s8:Value)(wr:YA):Prop:=∃j:Nat,s8=Yp Yv ((j:Int)-1)/\j<=F.length/\yT wr w.1.size F j/\ac w wr
def Cj(w:YA)(f:List St.It)(F:List Int)(n:Nat)(s9 Lq:Value)(wr:YA):Prop:=
 ∃k:Nat,k<=n/\Lq=Yp Yv k/\wr.ownsRow w.1.size 36 3 s9 k (ak ((f.take k).map (St.ij F)))/\yT wr w.1.size F 0/\ac w wr
theorem Nr(f:List St.It)(F:List Int)(k:Nat)(h:k<f.length):ak ((f.take (k+1)).map (St.ij F))=ak ((f.take k).map (St.ij F))++[Yp Yv (St.ij F f[k]).1,Yq ⟨(St.ij F f[k]).2.1.toArray⟩,Yp Yv (St.ij F f[k]).2.2]:=by
 rw[List.take_add_one,List.getElem?_eq_getElem h,List.map_append];exact bM _ _
theorem PN(f:List St.It)(F:List Int):aY (f.map (St.ij F))=aY f:=by
 unfold aY;rw[List.map_map];congr 1;refine List.map_congr_left λx _=>?_
 show(St.ij F x).2.1.length=_
 unfold St.ij;split<;>rfl
theorem M3(A B C:Option Addr)(n c q d e0:Nat)(f:List St.It)(F:List Int)(w:YA)(hn:f.length=n)(hq:F.length=q)(h:aJ w A f)(hB:fu w B F)(hC:fu w C (St.mF q))(hnd:F.Nodup)(hall:∀x∈f,St.aQ x.1=true->x.2.2∈F)(hl:n<=100000)(ru:q<=100000)(ht:aY f<=1000000000000) :
  Calls Tryz.prog 95 #[Yr A n c,Yr B q d,Yr C q e0] w λe w'=>∃v,e=Yx v/\w'.ownsRow w.1.size 36 3 v (St.bI (f.map (St.ij F))).length (ak (St.bI (f.map (St.ij F))))/\ac w w':=by
 have H:=aa h;have HN:=aa hn;have HQ:=aa hq;have HB:=aa hB;have HC:=aa hC;have FK:=aa hnd;have L1:=aa hall;have HT:=aa ht;have hm:Tryz.prog.underlying 184=some (.map 3 3):=by kernel_rfl
 have hmk:∀W:YA,(Instr.makeMap 184 none).run Tryz.prog W=.ok (.map (some W.1.size)) (W.alloc (.map #[] 0)):=λW=>rfl
 have FJ:=aa hm;obtain⟨i0,hi,hz0,hz1,hz2⟩:=info_parts dM;clear h hn hq hB hC hnd hall ht hm;have Bj:min (q:Int) (q:Int)=(q:Int):=by omega
 go_enter Tryz.func95,Tryz.ntmps95;go_wp2_with fail;go_loopw [8] (λs8 wr=>Oi w F s8 wr) (λs8 _=>(intOf s8+1).toNat)
 case atStart=>exact⟨q,rfl,by rw[HQ.out];omega,⟨[],heap_alloc_new w _,λi=>by rw[List.drop_of_length_le (by rw[HQ.out];omega)];rfl⟩,(ac.refl w).alloc _⟩
 case round=>
  obtain⟨j,rfl,hj,hnw,hu⟩:=hrel;have HU:=aa hu;have hQ:=HQ.out
  by_cases DD:0<j
  ·obtain⟨m,rfl⟩:∃m,j=m+1:=⟨j-1,by omega⟩;have z1:((m+1:Nat):Int)-1=(m:Int):=by omega
   have z2:(0:Int)<=(m:Int):=by omega
   have z3:(m:Int)<(q:Int):=by omega
   obtain⟨b1,o1,rfl,hb1,hc1⟩:=(HB.out.ai hu) (by omega);obtain⟨b2,o2,rfl,hb2,hc2⟩:=(HC.out.ai hu) (by rw[St.vl];omega);have e1:=hc1 m (by omega);have e2:=hc2 m (by rw[St.vl];omega);rw[GX (by omega)]at e2;have RB:m<F.length:=by omega
   have OG:F.getD m 0=F[m]:=by rw[List.getD_eq_getElem?_getD,List.getElem?_eq_getElem RB];rfl
   have hdr:F.drop m=F[m] :: F.drop (m+1):=List.drop_eq_getElem_cons RB;have bS:F.idxOf F[m]=m:=FK.out.idxOf_getElem m RB
   have bh:F[m] ∉ F.drop (m+1):=by
    have hs:(F.drop m).Nodup:=FK.out.sublist (List.drop_sublist _ _);rw[hdr]at hs;exact(List.nodup_cons.1 hs).1
   rw[OG]at e1;obtain⟨l,hat,hlk⟩:=hnw;have tj:Mz.look F[m] l=none:=by rw[hlk,if_neg bh]
   have xV:Mz.At wr.drew w.1.size l:=hat;have hpt:=Mz.GL FJ.out (Yp Yv ((m:Int)+1)) xV tj
   have hfin:=aa (show Oi w F (Yp Yv ((m:Int)-1)) (Mz.put wr.drew w.1.size (l++[(F[m],Yp Yv ((m:Int)+1))]))from
    ⟨m,rfl,by omega,⟨_,Mz.Ld xV _,λi=>by
     rw[Mz.KY,hlk,hdr]
     by_cases h1:i∈F.drop (m+1)
     ·rw[if_pos h1,if_pos (List.mem_cons_of_mem _ h1)]
     rw[if_neg h1]
     by_cases h2:i=F[m]
     ·simp only[if_pos h2];rw[if_pos (by rw[h2];exact List.mem_cons_self),h2,bS]
     simp only[if_neg h2]
     rw[if_neg (by intro e;rcases List.mem_cons.1 e with e|e;exact h2 e;exact h1 e)]⟩,Mz.GC _ (HU.out.drew) (Nat.le_refl _)⟩)
   generalize F[m]=fm at e1 hpt hfin;haveI:af b1 wr:=af.of hb1;haveI:af b2 wr:=af.of hb2;clear hu hc1 hc2 hat hlk tj OG hdr bS bh xV;rw[z1];go_wp2_with fail;go_region_law (fail)
   all_goals
    go_wp2;exact⟨hfin.out,by first|(simp[intOf];done)|(simp[intOf];omega)⟩
  obtain rfl:j=0:=by omega
  have FM:=aa hnw;have z1:¬(0:Int)<=((0:Nat):Int)-1:=by omega
  clear hu hnw DD hmk;go_wp2_with fail;go_loopw [9,36] (λs9 Lq wr=>Cj w f F n s9 Lq wr) (λ_ Lq _=>n+1-(intOf Lq).toNat)
  case atStart=>exact⟨0,by omega,rfl,World.ownsRow_nil _ _ _ _,FM.out,HU.out⟩
  case round=>
   clear FM HU;obtain⟨k,hk,rfl,hown,hnw,hu⟩:=hrel;have HU:=aa hu;have hsz:=hu.size;have HOW:=aa hown;have FM:=aa hnw;have hN:=HN.out;obtain⟨AO,cO,rfl,_⟩:=aI hown;clear hu hnw
   by_cases hlt:k<n
   ·clear hown;have aO:k<f.length:=by omega
    obtain⟨b,off,rfl,hb,hc⟩:=(H.out.ai HU.out) (by omega);obtain⟨c0,c1,c2⟩:=hc k aO;have Bm:=Nr f F k aO;have hal:=L1.out f[k] (List.getElem_mem aO);generalize f[k]=x at c0 c1 c2 Bm hal;obtain⟨kd,tx,id⟩:=x;simp only at c0 c1 c2 hal;have hit:=λt W=>se kd t id W
    haveI:af b wr:=af.of hb
    have hbb:∀(i:Int) (v':Value) (w4:YA),St.ij F (kd,tx,id)=(kd,tx,i)->w4.ownsRow w.1.size 36 3 v' (k+1) (ak ((f.take k).map (St.ij F))++[Yp Yv kd,Yq ⟨tx.toArray⟩,Yp Yv i])->yT w4 w.1.size F 0->ac w w4->Cj w f F n v' (Yp Yv ((k:Int)+1)) w4:=λi v' w4 e h1 h2 h3=>
     ⟨k+1,by omega,congrArg (Yp Yv) (by omega),by rw[Bm,e];exact h1,h2,h3⟩
    have dA:=aa hbb;clear hc aO Bm hbb;cases dr:St.aQ kd
    ·rw[dr]at hit;have HIT:=aa hit;have hre:=aa (show St.ij F (kd,tx,id)=(kd,tx,id)by unfold St.ij;rw[if_neg (by simp[dr])]);clear hit dr hal;go_wp2_with fail;refine(HIT.out _ _).mono ?_;rintro e w3 ⟨rfl,hu3⟩;have cI:ac wr w3:=ac.trans (uZ) hu3;have d0:w3.cell? ⟨wr.1.size,0,none⟩=some (.int .i64 kd):=(hu3.cell (p:=⟨wr.1.size,0,none⟩) (by simp)).trans (by simp);have d1:w3.cell? ⟨wr.1.size,1,none⟩=some (.string ⟨tx.toArray⟩):=(hu3.cell (p:=⟨wr.1.size,1,none⟩) (by simp)).trans (by simp);have d2:w3.cell? ⟨wr.1.size,2,none⟩=some (.int .i64 id):=(hu3.cell (p:=⟨wr.1.size,2,none⟩) (by simp)).trans (by simp);haveI:af wr.1.size w3:=af.of (cS _ _ d0);have bm:=aa (HU.out.trans cI);have rO:=aa (aH cI HOW.out);have UP:=aa (FM.out.ai cI);have hs3:=bm.out.size;clear hu3 cI c0 c1 c2;go_wp2_with (at_builtin;refine wpList_append_own _ rfl _ _ 37 rfl w.1.size 36 i0 (.agg #[.int .i64 0,.string ⟨#[]⟩,.int .i64 0]) 3 32 Tryz.underlying37 hi hz0 hz1 hz2 rfl (by decide) (.slice AO k cO) k _ rfl (rO.out.alloc _) _ 1 1 [.int .i64 kd,.string ⟨tx.toArray⟩,.int .i64 id] rfl rfl ?_ (cX _ _ _) (by unfold maxLen;omega) (by omega) ?_ ?_)
     all_goals try exact eL _ _ _ _ _ _ rfl
     all_goals try (simp;omega;done)
     intro v' w4 hown' hgrow _;have HE:=aa (dA.out id v' w4 hre.out (by rw[List.map_take];exact hown') (by obtain⟨l,h1,h2⟩:=UP.out;exact⟨l,Mz.wa (h1.ai ((ac.refl w3).alloc _)) hgrow (rO.out.alloc _),h2⟩) ((bm.out.alloc _).grown hgrow (λg hg=>aD rO.out g hg)));clear hown' hgrow;go_wp2;exact⟨HE.out,by simp[intOf];omega⟩
    rw[dr]at hit;have HIT:=aa hit;have hin:=hal dr;obtain⟨yp,hnid⟩:∃yp:Int,yp=(F.idxOf id:Int)+1:=⟨_,rfl⟩;have hre:=aa (show St.ij F (kd,tx,id)=(kd,tx,yp)by unfold St.ij;rw[if_pos (by simp[dr]),hnid]);clear hit dr hal;go_wp2_with fail;refine(HIT.out _ _).mono ?_;rintro e w3 ⟨rfl,hu3⟩;have cI:ac wr w3:=ac.trans (uZ) hu3;have hb3:=(hu3.below.block wr.1.size (by simp)).trans (heap_alloc_new wr (.cells #[Yp Yv kd,Yq ⟨tx.toArray⟩,Yp Yv id] 36));have d0:w3.cell? ⟨wr.1.size,0,none⟩=some (Yp Yv kd):=aj hb3 0;have d1:w3.cell? ⟨wr.1.size,1,none⟩=some (Yq ⟨tx.toArray⟩):=aj hb3 1;have d2:w3.cell? ⟨wr.1.size,2,none⟩=some (Yp Yv id):=aj hb3 2;have f2:w3.frozen? ⟨wr.1.size,2,none⟩=false:=bu hb3 2;haveI:af wr.1.size w3:=af.of (ae hb3);have bm:=aa (HU.out.trans cI);have rO:=aa (aH cI HOW.out);have Vh:=FM.out.ai cI;obtain⟨l,hat,hlk⟩:=Vh;have hget:=Mz.run_get FJ.out true hat (show Mz.look id l=some (Yp Yv yp)by rw[hlk,if_pos (by simpa using hin),hnid]);simp only[if_true]at hget;have hs3:=bm.out.size;have Vd:w.1.size<wr.1.size:=by obtain⟨l0,h1,_⟩:=FM.out;exact h1.lt
    have lz:ac w (w3.setCell ⟨wr.1.size,2,none⟩ (.int .i64 yp)):=ac.mk (bm.out.below.setCell (p:=⟨wr.1.size,2,none⟩) hsz _);have sa:(w3.setCell ⟨wr.1.size,2,none⟩ (.int .i64 yp)).ownsRow w.1.size 36 3 (.slice AO k cO) k (ak ((f.take k).map (St.ij F))):=aC rO.out (λe=>by have:=(HOW.out.lt _ e).2;omega);have OP:Mz.At (w3.setCell ⟨wr.1.size,2,none⟩ (.int .i64 yp)) w.1.size l:=(Below.heap_setCell w3 ⟨wr.1.size,2,none⟩ _ w.1.size (by simp;omega)).trans hat;have CM:=aa (And.intro lz (And.intro sa OP));have tD:=aa hlk;clear hu3 cI c0 c1 c2 hb3 lz sa OP hat hlk hin hnid;go_wp2_with (at_builtin;refine wpList_append_own _ rfl _ _ 37 rfl w.1.size 36 i0 (.agg #[.int .i64 0,.string ⟨#[]⟩,.int .i64 0]) 3 32 Tryz.underlying37 hi hz0 hz1 hz2 rfl (by decide) (.slice AO k cO) k _ rfl (CM.out.2.1.alloc _) _ 1 1 [.int .i64 kd,.string ⟨tx.toArray⟩,.int .i64 yp] rfl rfl ?_ (cX _ _ _) (by unfold maxLen;omega) (by omega) ?_ ?_)
    all_goals try exact eL _ _ _ _ _ _ (by first|rfl|(simp;done))
    all_goals try (simp;omega;done)
    intro v' w4 hown' hgrow _;have HE:=aa (dA.out yp v' w4 hre.out (by rw[List.map_take];exact hown') ⟨l,Mz.wa (CM.out.2.2.ai ((ac.refl _).alloc _)) hgrow (CM.out.2.1.alloc _),tD.out⟩ ((CM.out.1.alloc _).grown hgrow (λg hg=>aD rO.out g hg)));clear hown' hgrow;go_wp2;exact⟨HE.out,by simp[intOf];omega⟩
   have hkn:k=n:=by omega
   subst hkn;have hft:f.take k=f:=List.take_of_length_le (by omega);rw[hft]at hown;have hno:=Bo AO k cO (f.map (St.ij F)) wr (by simp;omega) (a7 hown (by simp;omega)) (by omega) (by rw[PN];exact HT.out);have kU:=aa hno;clear hlt hown hno hft;go_wp2_with fail;refine kU.out.mono ?_;rintro e w5 ⟨v,rfl,ho,bt⟩;have HE:=aa (And.intro (cT ho (by omega)) (HU.out.trans bt));clear ho bt;go_wp2;go_ret;exact⟨v,rfl,HE.out.1,HE.out.2⟩
theorem IN(f:List St.It):(St.na f).Nodup/\∀x∈f,St.aQ x.1=true->x.2.2∈St.na f:=by
 have key:∀(f:List St.It) (l:List Int),l.Nodup->(f.foldl St.fo l).Nodup/\(∀i∈l,i∈f.foldl St.fo l)/\∀x∈f,St.aQ x.1=true->x.2.2∈f.foldl St.fo l:=by
  intro f
  induction f with
  | nil=>exact λl hl=>⟨hl,λi hi=>hi,λx hx=>by cases hx⟩
  | cons y f ih=>
   intro l hl;rw[List.foldl_cons]
   have h1:(St.fo l y).Nodup/\(∀i∈l,i∈St.fo l y)/\(St.aQ y.1=true->y.2.2∈St.fo l y):=by
    unfold St.fo
    split
    ·rename_i h
     refine⟨?_,λi hi=>by simp[hi],λ_=>by simp⟩;rw[List.nodup_append];refine⟨hl,by simp,λa ha b hb=>?_⟩;simp at hb;subst hb;intro e;subst e;exact h.2 ha
    rename_i h
    exact⟨hl,λi hi=>hi,λht=>Classical.byContradiction λhc=>h ⟨ht,hc⟩⟩
   obtain⟨g1,g2,g3⟩:=ih _ h1.1;refine⟨g1,λi hi=>g2 i (h1.2.1 i hi),λx hx ht=>?_⟩;rcases List.mem_cons.1 hx with rfl|hx
   ·exact g2 _ (h1.2.2 ht)
   exact g3 x hx ht
 obtain⟨h1,_,h3⟩:=key f [] List.nodup_nil;exact⟨h1,h3⟩
theorem ID(A:Option Addr)(n c:Nat)(f:List St.It)(w:YA)(hn:f.length=n)(h:aJ w A f)(hl:n<=100000)(ht:aY f<=1000000000000) :
  Calls Tryz.prog 53 #[Yr A n c] w λe w'=>∃v,e=Yx v/\w'.ownsRow w.1.size 36 3 v (St.pF f).length (ak (St.pF f))/\ac w w':=by
 have H1:=aa (M0 A n c f w hn h hl);have H:=aa h;obtain⟨hnd,hall⟩:=IN f;have FK:=aa hnd;have L1:=aa hall;clear h hnd hall;go_enter Tryz.func53,Tryz.ntmps53;go_wp2_with fail;refine H1.out.mono ?_;rintro e w2 ⟨v2,rfl,hqn,gg,hu2⟩;obtain⟨A2,c2,rfl,_,_,_⟩:=aW gg;have aX:=aa hu2;have CE:=aa (Sv gg rfl);have V8:=aa (λW=>IA (St.na f).length W (by omega));clear hu2 gg H1;go_wp2_with fail;refine(V8.out _).mono ?_;rintro e w3 ⟨A3,c3,rfl,hI3,_,_,hu3⟩;have hr:=M3 A A2 A3 n c (St.na f).length c2 c3 f (St.na f) w3 hn rfl (H.out.ai (aX.out.trans hu3)) (CE.out.ai hu3) hI3 FK.out L1.out hl (by omega) ht;have HR:=aa hr;have bm:=aa (aX.out.trans hu3);clear hr hI3 hu3;go_wp2_with fail;refine HR.out.mono ?_;rintro e w4 ⟨v,rfl,ho,bj⟩;have HE:=aa (And.intro (cT ho (by have:=bm.out.size;omega)) (bm.out.trans bj));clear ho bj;go_wp2;go_ret;exact⟨v,rfl,HE.out.1,HE.out.2⟩
end
