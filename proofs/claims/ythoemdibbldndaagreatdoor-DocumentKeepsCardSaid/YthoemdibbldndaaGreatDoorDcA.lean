/- The contract of item.Normalize: what it gives is St.normL. -/
import Derived.Lib.AppendStr
import Derived.Lib.AppendZerosOnto
import Derived.Test.YthoemdibbldndaaGreatDoorGI
import Derived.Laws.OwnMore
import Derived.Test.YthoemdibbldndaaGreatDoorRefSame
import Derived.MapKept
import Derived.Test.YthoemdibbldndaaGreatDoorGF
import Derived.BigQuiet
import Derived.Laws.MakeOwn
import Derived.Deep.RegionLaw
set_option linter.all false
set_option maxHeartbeats 0
set_option maxRecDepth 20000
open Go.Value renaming int->Yh,string->Yi,slice->Yj,bool->Yk,tuple->Ym
open Go.IntKind renaming i64->Yn
open Go.Ending renaming returned->Yp
open Go renaming World->Ys
namespace Go.Proofs.YthoemdibbldndaaGreatDoor
open Go.RowKit
section
theorem Ln{f:List St.It}{t:List UInt8}(h:St.fG f)(s:List UInt8)(i:Int):St.aL (f++St.ch t) (1,s,i)=f++St.ch (t++s):=by
 by_cases hs:s=[]
 ·subst hs;rw[List.append_nil];unfold St.aL;rw[if_pos rfl,if_pos rfl]
 unfold St.ch
 by_cases ht:t=[]
 ·subst ht;simp only[if_true,List.append_nil,List.nil_append];rw[if_neg hs];rcases St.cT f with rfl|⟨a,b,rfl⟩
  ·rw[St.eB];simp[hs]
  rw[St.cU];have:=h b (by simp)
  simp[this,hs]
 rw[if_neg ht,if_neg (by simp[ht]),St.cU];simp[hs]
theorem FM(f:List St.It)(k:Nat)(h:k<f.length):St.bl (f.take (k+1))=St.aL (St.bl (f.take k)) f[k]:=by
 rw[List.take_add_one,List.getElem?_eq_getElem h];exact St.eh _ _
theorem K2(f:List St.It)(k:Nat)(h:k<f.length):aV (f.take (k+1))=aV (f.take k)+f[k].2.1.length:=by
 rw[List.take_add_one,List.getElem?_eq_getElem h];exact cw _ _
theorem ul(f:List St.It)(k:Nat):aV (f.take k)<=aV f:=by
 have e:aV f=aV (f.take k)+aV (f.drop k):=by
  conv=>lhs;rw[<-List.take_append_drop k f]
  unfold aV;rw[List.map_append,List.sum_append]
 omega
theorem Jc{w:Ys}{B n c:Nat}{A:Option Addr}{l:List UInt8}(h:w.ownsRow B 5 1 (Yj A n c) n (Lib.byteCells l))(h0:0<n) :
  (convert 22 9 (Yj A n c)).run Tryz.prog w=.ok (Yi ⟨l.toArray⟩) w:=by
 have hl:l.length=n:=by have:=h.1;rw[Lib.byteCells_length]at this;simpa using this
 obtain⟨g,rfl,_,_,hc⟩:=dU h h0
 rw[run_convert_bytes_arg w 22 5 Tryz.underlying22 Tryz.underlying5 g 0 n c (l.map λx=>(x.toNat:Int)) (by simpa using hl) (λi hi=>by
  rw[Nat.zero_add];refine hc i _ ?_;have hil:i<l.length:=by omega
  simp[Lib.byteCells,List.getD_eq_getElem?_getD,hil]) _ Tryz.underlying9]
 simp[strOfNums,Function.comp_def]
theorem zd(s:List UInt8):Lib.strCells ⟨s.toArray⟩=Lib.byteCells s:=by
 simp[Lib.strCells,Lib.byteCells]
theorem Bo(a b:List UInt8):Lib.byteCells a++Lib.byteCells b=Lib.byteCells (a++b):=by simp[Lib.byteCells]
def wK(w:Ys)(f:List St.It)(n:Nat)(s3 s4:Value)(wr:Ys):Prop:=
 ∃(k:Nat) (O:List St.It),k<=n/\s4=Yh Yn k/\O=St.bl (f.take k)/\(∀x,f[k]?=some x->x.1=1->St.fG O)/\O.length<=k/\wr.ownsRow w.1.size 36 3 s3 O.length (ak O)/\ac w wr
def I2(w:Ys)(f O:List St.It)(n k:Nat)(v:Value)(s4 s5:Value)(wr:Ys):Prop:=
 ∃(j:Nat) (t:List UInt8),k<=j/\j<=n/\s4=Yh Yn j/\St.bl (f.take j)=O++St.ch t/\t.length<=aV (f.take j)/\wr.ownsRow w.1.size 5 1 s5 t.length (Lib.byteCells t)/\wr.ownsRow w.1.size 36 3 v O.length (ak O)/\ac w wr
theorem Ay(A:Option Addr)(n c:Nat)(f:List St.It)(w:Ys)(hn:f.length=n)(h:aH w A f)(hl:n<=1000000)(ht:aV f<=1000000000000) :
  Calls Tryz.prog 130 #[Yj A n c] w λe w'=>∃v,e=Yp v/\w'.ownsRow w.1.size 36 3 v (St.bl f).length (ak (St.bl f))/\ac w w':=by
 have H:=aa h;have HN:=aa hn;have HT:=aa ht;obtain⟨i0,hi,hz0,hz1,hz2⟩:=info_parts dH;obtain⟨ib,kb,kz0,kz1,kz2⟩:=info_parts pY;clear h hn ht;go_enter Tryz.func130,Tryz.ntmps130;go_wp2;go_loopw [3,4] (λs3 s4 wr=>wK w f n s3 s4 wr) (λ_ s4 _=>n+1-(intOf s4).toNat)
 case atStart=>exact⟨0,[],by omega,rfl,rfl,λ_ _ _=>St.qc,by simp,World.ownsRow_nil _ _ _ _,ac.refl _⟩
 case round=>
  obtain⟨k,O,hk,rfl,hO,hNT,NS,hown,hu⟩:=hrel;have HU:=aa hu;have hsz:=hu.size;have HOW:=aa hown;have lS:=aa hNT;have Nu:=aa hO;have hN:=HN.out;obtain⟨AO,cO,rfl,_⟩:=aJ hown;clear hu hNT hO
  by_cases hlt:k<n
  ·clear hown;have aI:k<f.length:=by omega
   obtain⟨b,off,hAe,hb,hc⟩:=(H.out.ai HU.out) (by omega);obtain⟨c0,c1,c2⟩:=hc k aI;have hnt:=FM f k aI;have hgx:f[k]?=some f[k]:=List.getElem?_eq_getElem aI;generalize f[k]=x at c0 c1 c2 hnt hgx;obtain⟨kd,tx,id⟩:=x;simp only at c0 c1 c2;haveI:af b wr:=af.of hb;have UD:=aa hnt;have Td:=aa hgx;clear hc hnt hgx
   by_cases k1:kd=1
   ·subst k1;have VL:=aa (lS.out _ Td.out rfl);subst hAe;go_wp2_with fail;go_loopw [4,5] (λs4 s5 wr=>I2 w f O n k (Yj AO O.length cO) s4 s5 wr) (λs4 _ _=>n+1-(intOf s4).toNat)
    case atStart=>exact⟨k,[],Nat.le_refl _,hk,rfl,by unfold St.ch;simp[Nu.out],by simp,World.ownsRow_nil _ _ _ _,HOW.out,HU.out⟩
    case round=>
     clear c0 c1 c2;obtain⟨j,t,hkj,hjn,rfl,hno,htl,hob,hown,hu⟩:=hrel;have aX:=aa hu;have Nt:=aa hob;have yh:=aa hown;have iz:=aa hno;have hT:=HT.out;have htk:=ul f j;have kS:=hu.size;obtain⟨AB,cB,rfl,_⟩:=aJ hob;clear hu hob hown hno
     by_cases xy:j<n/\(f[j]?.map (·.1))=some 1
     ·obtain⟨hjl,qX⟩:=xy;have ir:j<f.length:=by omega
      obtain⟨b2,off2,hAe2,hb2,hc2⟩:=(H.out.ai aX.out) (by omega);obtain⟨rfl,rfl⟩:b=b2/\off=off2:=by simp at hAe2;exact hAe2
      obtain⟨e0,e1,e2⟩:=hc2 j ir;have hnt:=FM f j ir;have q6:=K2 f j ir;rw[List.getElem?_eq_getElem ir]at qX;generalize f[j]=y at e0 e1 e2 hnt qX q6;obtain⟨yk,yt,yi⟩:=y;simp only[Option.map_some,Option.some.injEq]at qX;subst qX;simp only at e0 e1 e2 q6;rw[iz.out,Ln VL.out]at hnt;haveI:af b wr:=af.of hb2;have Wx:(⟨yt.toArray⟩:ByteArray).size=yt.length:=by show yt.toArray.size=_;simp
      have Xo:=ul f (j+1);have UE:=aa hnt;clear hc2 hnt ir;go_wp2_with (at_builtin;refine Lib.wpList_append_own_string _ rfl _ _ 22 9 rfl w.1.size 5 ib Tryz.underlying22 Tryz.underlying9 kb kz0 kz1 kz2 _ _ _ rfl Nt.out ⟨yt.toArray⟩ rfl ?_ ?_ ?_ ?_)
      ·unfold maxLen;omega
      ·show t.length+(⟨yt.toArray⟩:ByteArray).size<=_;rw[Wx];omega
      intro v' w4 hown' hgrow _;rw[zd,Bo]at hown';have jz:=yh.out.kept hgrow (da yh.out Nt.out (by decide));have bf:=aX.out.grown hgrow (λg hg=>aB Nt.out g hg);have HE:=aa (show I2 w f O n k (Yj AO O.length cO) (Yh Yn ((j:Int)+1)) v' w4 from⟨j+1,t++yt,by omega,by omega,congrArg (Yh Yn) (by omega),UE.out,by rw[List.length_append,q6];omega,by rw[List.length_append];exact hown',jz,bf⟩);clear hown' hgrow jz bf;go_wp2;exact⟨HE.out,by simp[intOf];omega⟩
     have Xj:k<j:=by
      rcases Nat.lt_or_ge k j with h|h
      ·exact h
      exfalso;have:j=k:=by omega
      subst this;exact xy ⟨hlt,by rw[Td.out];rfl⟩
     have hnx:∀x,f[j]?=some x->x.1=1->∀O':List St.It,St.fG O':=by
      intro x hx h1 O';exfalso;refine xy ⟨?_,by rw[hx];simp[h1]⟩;rcases Nat.lt_or_ge j n with h|h
      ·exact h
      rw[List.getElem?_eq_none (by omega)]at hx;cases hx
     have PZ:=aa hnx;clear hnx
     by_cases ht0:t=[]
     ·subst ht0;have hfin:=aa (show wK w f n (Yj AO O.length cO) (Yh Yn j) wr from⟨j,O,hjn,rfl,by rw[iz.out];simp[St.ch],λx hx h1=>PZ.out x hx h1 O,by omega,yh.out,aX.out⟩)
      by_cases hjl:j<n
      ·have ir:j<f.length:=by omega
       obtain⟨b2,off2,hAe2,hb2,hc2⟩:=(H.out.ai aX.out) (by omega);obtain⟨rfl,rfl⟩:b=b2/\off=off2:=by simp at hAe2;exact hAe2
       have e0:=(hc2 j ir).1;have hy1:¬f[j].1=1:=λe=>xy ⟨hjl,by rw[List.getElem?_eq_getElem ir];simp[e]⟩
       generalize f[j].1=yk at e0 hy1;have q1:(yk==1)=false:=by simpa using hy1
       haveI:af b wr:=af.of hb2;clear hc2 xy hy1;go_wp2;exact⟨hfin.out,by simp[intOf];omega⟩
      clear xy;go_wp2;exact⟨hfin.out,by simp[intOf];omega⟩
     have tQ:0<t.length:=List.length_pos_iff.2 ht0;have zt:(0:Int)<(t.length:Int):=by omega
     have hcv:∀W,ac wr W->(convert 22 9 (Yj AB t.length cB)).run Tryz.prog W=.ok (Yi ⟨t.toArray⟩) W:=λW hW=>Jc (aF hW Nt.out) tQ
     have Xg:=hcv _ (ac.refl _)
     have hfin:∀v' w4,w4.ownsRow w.1.size 36 3 v' (O.length+1) (ak O++[Yh Yn 1,Yi ⟨t.toArray⟩,Yh Yn 0])->ac w w4->wK w f n v' (Yh Yn j) w4:=λv' w4 h1 h2=>
      ⟨j,O++[(1,t,0)],hjn,rfl,by rw[iz.out];simp[St.ch,ht0],λx hx h1=>PZ.out x hx h1 _,by simp;omega,by rw[bD,List.length_append,List.length_singleton];exact h1,h2⟩
     have dq:=aa hfin;have QR:∀(W:Ys),ac wr W->W.ownsRow w.1.size 36 3 (Yj AO O.length cO) O.length (ak O):=λW hW=>aF hW yh.out
     by_cases hjl:j<n
     ·have ir:j<f.length:=by omega
      obtain⟨b2,off2,hAe2,hb2,hc2⟩:=(H.out.ai aX.out) (by omega);obtain⟨rfl,rfl⟩:b=b2/\off=off2:=by simp at hAe2;exact hAe2
      have e0:=(hc2 j ir).1;have hy1:¬f[j].1=1:=λe=>xy ⟨hjl,by rw[List.getElem?_eq_getElem ir];simp[e]⟩
      generalize f[j].1=yk at e0 hy1;have q1:(yk==1)=false:=by simpa using hy1
      haveI:af b wr:=af.of hb2;clear hc2 xy hy1;go_wp2_with (at_builtin;refine wpList_append_own _ rfl _ _ 37 rfl w.1.size 36 i0 (.agg #[.int .i64 0,.string ⟨#[]⟩,.int .i64 0]) 3 32 Tryz.underlying37 hi hz0 hz1 hz2 rfl (by decide) (.slice AO O.length cO) O.length _ rfl (QR _ uZ) _ 1 1 [.int .i64 1,.string ⟨t.toArray⟩,.int .i64 0] rfl rfl ?_ (cL _ _ _) (by unfold maxLen;omega) (by omega) ?_ ?_)
      all_goals try exact dW _ _ _ _ _ _ rfl
      all_goals try omega
      all_goals try (simp;omega;done)
      intro v' w4 hown' hgrow _;have HE:=aa (dq.out v' w4 hown' ((aX.out.trans uZ).grown hgrow (λg hg=>aB yh.out g hg)));clear hown' hgrow;go_wp2;exact⟨HE.out,by simp[intOf];omega⟩
     clear xy;go_wp2_with (at_builtin;refine wpList_append_own _ rfl _ _ 37 rfl w.1.size 36 i0 (.agg #[.int .i64 0,.string ⟨#[]⟩,.int .i64 0]) 3 32 Tryz.underlying37 hi hz0 hz1 hz2 rfl (by decide) (.slice AO O.length cO) O.length _ rfl (QR _ uZ) _ 1 1 [.int .i64 1,.string ⟨t.toArray⟩,.int .i64 0] rfl rfl ?_ (cL _ _ _) (by unfold maxLen;omega) (by omega) ?_ ?_)
     all_goals try exact dW _ _ _ _ _ _ rfl
     all_goals try omega
     all_goals try (simp;omega;done)
     intro v' w4 hown' hgrow _;have HE:=aa (dq.out v' w4 hown' ((aX.out.trans uZ).grown hgrow (λg hg=>aB yh.out g hg)));clear hown' hgrow;go_wp2;exact⟨HE.out,by simp[intOf];omega⟩
   have q1:(kd==1)=false:=by simpa using k1
   have q2:(kd != 1)=true:=by simpa using k1
   have hadd:St.bl (f.take (k+1))=O++[(kd,tx,id)]:=by rw[UD.out,<-Nu.out];unfold St.aL;rw[if_neg k1]
   have hfin:∀v' w4,w4.ownsRow w.1.size 36 3 v' (O.length+1) (ak O++[Yh Yn kd,Yi ⟨tx.toArray⟩,Yh Yn id])->ac w w4->wK w f n v' (Yh Yn ((k:Int)+1)) w4:=λv' w4 h1 h2=>
    ⟨k+1,O++[(kd,tx,id)],by omega,congrArg (Yh Yn) (by omega),hadd.symm,λ_ _ _=>St.mv _ _ _ _ k1,by simp;omega,by rw[bD,List.length_append,List.length_singleton];exact h1,h2⟩
   have dq:=aa hfin;subst hAe;clear k1 hadd hfin;go_wp2_with (at_builtin;refine wpList_append_own _ rfl _ _ 37 rfl w.1.size 36 i0 (.agg #[.int .i64 0,.string ⟨#[]⟩,.int .i64 0]) 3 32 Tryz.underlying37 hi hz0 hz1 hz2 rfl (by decide) (.slice AO O.length cO) O.length _ rfl (HOW.out.alloc _) _ 1 1 [.int .i64 kd,.string ⟨tx.toArray⟩,.int .i64 id] rfl rfl ?_ (cL _ _ _) (by unfold maxLen;omega) (by omega) ?_ ?_)
   all_goals try exact dW _ _ _ _ _ _ rfl
   all_goals try omega
   all_goals try (simp;omega;done)
   intro v' w4 hown' hgrow _;have HE:=aa (dq.out v' w4 hown' ((HU.out.alloc _).grown hgrow (λg hg=>aB HOW.out g hg)));clear hown' hgrow;go_wp2;exact⟨HE.out,by simp[intOf];omega⟩
  have hkn:k=n:=by omega
  subst hkn;have hft:f.take k=f:=List.take_of_length_le (by omega);rw[hft]at Nu;have Wd:=Nu.out;subst Wd;clear hlt hft;go_wp2;go_ret;exact⟨_,rfl,HOW.out,HU.out⟩
end
section
set_option maxRecDepth 100000 in
theorem LO(n:Nat)(w:Ys)(hn:n<=200000) :
  Calls Tryz.prog 174 #[Yj none 0 0,Yh Yn (n:Int)] w λe w'=>∃v,e=Yp v/\w'.ownsRow w.1.size 36 3 v 0 []/\ac w w':=by
 obtain⟨i0,hi,hz0,hz1,hz2⟩:=info_parts dH
 by_cases h0:n=0
 ·subst h0;go_enter Tryz.func174,Tryz.ntmps174;go_wp2;go_ret;exact⟨_,rfl,World.ownsRow_nil _ _ _ _,ac.refl _⟩
 have z1:¬(n:Int)<0:=by omega
 have z2:(0:Int)<(n:Int):=by omega
 have hold:(Builtin.firstCells i0.size 0 (Yj none 0 0)).run Tryz.prog w.drew=.ok ([]:List Value).toArray w.drew:=run_firstCells_none w.drew i0.size 0 0 0
 have Fz:∀ty,(Builtin.append_ #[37,3] ty #[Yj none 0 0,Yh Yn (n:Int)]).run Tryz.prog w=.ok (Yj (some ⟨w.1.size,0,none⟩) (0+n) (grownCap w (0+n) 0 36)) (w.drew.alloc (.cells (([]:List Value).toArray++Builtin.zeroCells (Value.agg #[Yh Yn 0,Yi ⟨#[]⟩,Yh Yn 0]).cells n++Builtin.zeroCells (Value.agg #[Yh Yn 0,Yi ⟨#[]⟩,Yh Yn 0]).cells (grownCap w (0+n) 0 36-(0+n))) 36)):=λty=>
  Lib.run_append_grow_zeros w 37 3 ty 36 i0 _ .i64 .i64 Tryz.underlying37 Tryz.underlying3 hi hz0 none 0 0 [] hold n (by omega) (by omega) (by omega) (by omega) (by rw[hz2];omega) (by rw[hz2,Nat.zero_add];exact growslice_fits (by omega) (by omega))
 have hge:=grownCap_ge w (0+n) 0 36;have hle:=grownCap_le_maxLen w (0+n) 0 36 (by unfold maxLen;omega);obtain⟨G,hG⟩:∃G,G=grownCap w (0+n) 0 36:=⟨_,rfl⟩;rw[<-hG]at Fz hge hle;have Re:G<=9223372036854775807:=by unfold maxLen at hle;omega
 have hown:∀cs:Array Value,cs.size=G*3->(w.alloc (.cells cs 36)).drew.ownsRow w.1.size 36 3 (Yj (some ⟨w.1.size,0,none⟩) 0 G) 0 []:=λcs hcs=>
  ⟨rfl,.inr ⟨w.1.size,G,cs,rfl,Nat.le_refl _,heap_alloc_new w _,by omega,hle,hcs,by simp⟩⟩
 have HOWN:=aa hown;clear hold hG hown hle;go_enter Tryz.func174,Tryz.ntmps174;go_wp2_with (at_builtin;refine Lib.wpList_append_run _ rfl _ _ _ _ rfl _ _ rfl rfl _ _ (Fz _) ?_)
 all_goals (go_ret;exact⟨_,rfl,HOWN.out _ (by simp only[Array.size_append,size_zeroCells,List.size_toArray,List.length_cons,List.length_nil];omega),uZ⟩)
def Si(w:Ys)(n m:Nat)(s3 gw:Value)(wr:Ys):Prop:=∃j:Nat,j<=2/\gw=Yh Yn j/\s3=Yh Yn (if j=0 then(0:Int)else if j=1 then(n:Int)else(n:Int)+m)/\w=wr
def Gd(w:Ys)(f g:List St.It)(s6 KB:Value)(wr:Ys):Prop:=∃j:Nat,j<=2/\KB=Yh Yn j/\wr.ownsRow w.1.size 36 3 s6 (if j=0 then 0 else if j=1 then f.length else f.length+g.length) (ak (if j=0 then[]else if j=1 then f else f++g))/\ac w wr
theorem MO(A B:Option Addr)(n c m d:Nat)(f g:List St.It)(ab:Nat)(w:Ys)(hn:f.length=n)(hm:g.length=m)(hA:A=none->n=0/\c=0)(hB:B=none->m=0/\d=0)(h:aH w A f)(h':aH w B g)
  (hab:ab<w.1.size) (g0:w.cell? ⟨ab,0,none⟩=some (Yj A n c)) (g1:w.cell? ⟨ab,1,none⟩=some (Yj B m d)) (hl:n+m<=100000) :
  Calls Tryz.prog 131 #[Yj (some ⟨ab,0,none⟩) 2 2] w λe w'=>∃v,e=Yp v/\w'.ownsRow w.1.size 36 3 v (f++g).length (ak (f++g))/\ac w w':=by
 have H:=aa h;have H':=aa h';have HG:=aa (LO (n+m) w (by omega));have HA:=aa hA;have HB:=aa hB;have hc:((n+m:Nat):Int)=(n:Int)+m:=by omega
 rw[hc]at HG;haveI:af ab w:=af.of hab;clear h h' hA hB hc;subst hn hm;go_enter Tryz.func131,Tryz.ntmps131;go_wp2_with fail;go_loopw [3,11] (λs3 gw wr=>Si w f.length g.length s3 gw wr) (λ_ gw _=>3-(intOf gw).toNat)
 case atStart=>exact⟨0,by omega,rfl,rfl,rfl⟩
 case round=>
  obtain⟨j,hj,rfl,hs3,rfl⟩:=hrel;rcases(show j=0\/j=1\/j=2 by omega)with rfl|rfl|rfl
  ·obtain rfl:=hs3;have y1:¬((0:Int)+(f.length:Int)<0):=by omega
   have y2:¬((f.length:Int)<0):=by omega
   go_wp2;exact⟨⟨1,by omega,rfl,by first|rfl|(simp;done),rfl⟩,by simp[intOf]⟩
  ·obtain rfl:=hs3;simp only[if_neg (show ¬(1:Nat)=0 by omega),if_true];have y1:¬((f.length:Int)+(g.length:Int)<0):=by omega
   go_wp2;exact⟨⟨2,by omega,rfl,by first|rfl|(simp;done),rfl⟩,by simp[intOf]⟩
  obtain rfl:=hs3;simp only[if_neg (show ¬(2:Nat)=0 by omega),if_neg (show ¬(2:Nat)=1 by omega)];go_wp2_with fail;refine HG.out.mono ?_;rintro e w2 ⟨v,rfl,ho,hu⟩;have HO:=aa ho;have HU:=aa hu;obtain⟨AO,cO,rfl,_⟩:=aJ ho;clear ho hu HG;go_wp2_with fail;go_loopw [6,27] (λs6 KB wr=>Gd w f g s6 KB wr) (λ_ KB _=>3-(intOf KB).toNat)
  case atStart=>exact⟨0,by omega,rfl,HO.out,HU.out⟩
  case round=>
   clear HO HU;obtain⟨j,hj,rfl,ho,hu⟩:=hrel;have HU:=aa hu;have hsz:=hu.size;have e0:=(hu.cell (p:=⟨ab,0,none⟩) hab).trans g0;have e1:=(hu.cell (p:=⟨ab,1,none⟩) hab).trans g1;haveI:af ab wr:=af.of (Nat.lt_of_lt_of_le hab hsz);clear hu;rcases(show j=0\/j=1\/j=2 by omega)with rfl|rfl|rfl
   ·have HO:=aa ho;obtain⟨A1,c1,rfl,_⟩:=aJ ho;clear ho;go_wp2_with (at_builtin;refine gP rfl _ _ rfl w.1.size _ 0 [] rfl HO.out A f.length c f rfl HA.out (H.out.ai HU.out) rfl (by omega) hsz ?_);intro v' w4 jz hg4;have HE:=aa (show Gd w f g v' (Yh Yn 1) w4 from⟨1,by omega,rfl,by simpa using jz,HU.out.grown hg4 (λx hx=>aB HO.out x hx)⟩);clear jz hg4;go_wp2;exact⟨HE.out,by simp[intOf]⟩
   ·have dZ:wr.ownsRow w.1.size 36 3 _ f.length (ak f):=ho;have HO:=aa dZ;obtain⟨A1,c1,rfl,_⟩:=aJ dZ;clear ho dZ;go_wp2_with (at_builtin;refine gP rfl _ _ rfl w.1.size _ f.length f rfl HO.out B g.length d g rfl HB.out (H'.out.ai HU.out) rfl (by omega) hsz ?_);intro v' w4 jz hg4;have HE:=aa (show Gd w f g v' (Yh Yn 2) w4 from⟨2,by omega,rfl,jz,HU.out.grown hg4 (λx hx=>aB HO.out x hx)⟩);clear jz hg4;go_wp2;exact⟨HE.out,by simp[intOf]⟩
   have dZ:wr.ownsRow w.1.size 36 3 _ (f.length+g.length) (ak (f++g)):=ho;have HO:=aa dZ;obtain⟨A1,c1,rfl,_⟩:=aJ dZ;clear ho dZ;go_wp2;go_ret;exact⟨_,rfl,by rw[List.length_append];exact HO.out,HU.out⟩
set_option maxRecDepth 100000 in
theorem vB(A B:Option Addr)(n c m d:Nat)(f g:List St.It)(w:Ys)(hn:f.length=n)(hm:g.length=m)(hA:A=none->n=0/\c=0)(hB:B=none->m=0/\d=0)(h:aH w A f)(h':aH w B g)(hl:n+m<=100000)(ht:aV (f++g)<=1000000000000) :
  Calls Tryz.prog 98 #[Yj A n c,Yj B m d] w λe w'=>∃v,e=Yp v/\w'.ownsRow w.1.size 36 3 v (St.bl (f++g)).length (ak (St.bl (f++g)))/\ac w w':=by
 have hsc:=λ(W:Ys) (ab:Nat) (hW:ac w W) (hab:ab<W.1.size) (g0:W.cell? ⟨ab,0,none⟩=some (Yj A n c)) (g1:W.cell? ⟨ab,1,none⟩=some (Yj B m d))=>MO A B n c m d f g ab W hn hm hA hB (h.ai hW) (h'.ai hW) hab g0 g1 hl
 have hlen:(f++g).length<=1000000:=by rw[List.length_append];omega
 have hno:=λ(A:Option Addr) (c:Nat) (W:Ys) (h:aH W A (f++g))=>Ay A (f++g).length c (f++g) W rfl h hlen ht
 generalize f++g=F at hsc hno |-;have VT:=aa hsc;have HN:=aa hno;clear h h' hsc hno hA hB hlen ht hl;go_enter Tryz.func98,Tryz.ntmps98;go_wp2_with fail;refine(VT.out _ _ uZ (by simp) (by simp) (by simp)).mono ?_;rintro e w2 ⟨v,rfl,ho,hu⟩;obtain⟨AO,cO,rfl,_⟩:=aJ ho;have hno:=HN.out AO cO w2 (aW ho rfl);have iz:=aa hno;have HU:=aa (show ac w w2 from ac.trans (uZ) hu);clear hno ho hu;go_wp2_with fail;refine iz.out.mono ?_;rintro e w3 ⟨v3,rfl,cR,hu3⟩;have HE:=aa (And.intro (cH cR HU.out.size) (HU.out.trans hu3));clear cR hu3;go_wp2;go_ret;exact⟨_,rfl,HE.out.1,HE.out.2⟩
end
section
theorem Pq(a b:Nat)(f:List St.It)(k:Nat)(h:k<f.length):St.aY a b 0 (f.take (k+1))=St.aY a b 0 (f.take k)++St.aY a b (St.aA (f.take k)) [f[k]]:=by
 rw[List.take_add_one,List.getElem?_eq_getElem h];have:=St.zux a b (f.take k) f[k] 0
 rw[Nat.zero_add]at this;exact this
theorem rq(a b:Nat)(f:List St.It):∀at',(St.aY a b at' f).length<=f.length:=by
 induction f with
 | nil=>intro at';simp[St.aY]
 | cons x f ih=>
  intro at';rw[St.aY,List.length_append];have:=ih (at'+St.aZ x)
  have h1:(if x.1=1 then(if max a at' - at'<min b (at'+x.2.1.length)-at' then[((1:Int),(x.2.1.take (min b (at'+x.2.1.length)-at')).drop (max a at' - at'),x.2.2)]else[])else(if a<=at'/\at'<b then[x]else[])).length<=1:=by
   repeat' split
   all_goals simp
  simp only[List.length_cons];omega
theorem OT(f:List St.It)(k:Nat)(h:k<f.length):St.aA (f.take (k+1))=St.aA (f.take k)+St.aZ f[k]:=by
 rw[List.take_add_one,List.getElem?_eq_getElem h];exact St.gG _ _
theorem Ht(f:List St.It)(k:Nat):St.aA (f.take k)<=St.aA f:=by
 have e:St.aA f=St.aA (f.take k)+St.aA (f.drop k):=by
  conv=>lhs;rw[<-List.take_append_drop k f]
  unfold St.aA;rw[List.map_append,List.sum_append]
 omega
theorem RW(a b m:Nat)(kd id:Int)(tx:List UInt8){lo hi:Nat}(h1:lo=max a m)(h2:hi=min b (m+St.aZ (kd,tx,id))) :
  St.aY a b m [(kd,tx,id)]=if lo<hi then(if kd=1 then[(1,(tx.take (hi-m)).drop (lo-m),id)]else[(kd,tx,id)])else[]:=by
 unfold St.aY St.aY St.aZ at *;simp only[List.append_nil]at *
 by_cases hk:kd=1
 ·rw[if_pos hk]at h2;simp only[if_pos hk,<-h1,<-h2]
  by_cases hl:lo<hi
  ·rw[if_pos (by omega),if_pos hl]
  rw[if_neg (by omega),if_neg hl]
 rw[if_neg hk]at h2;simp only[if_neg hk]
 by_cases hl:lo<hi
 ·rw[if_pos (by omega),if_pos hl]
 rw[if_neg (by omega),if_neg hl]
def BD(w:Ys)(a b:Nat)(f:List St.It)(n:Nat)(s8 s9 KD:Value)(wr:Ys):Prop:=
 ∃k:Nat,k<=n/\KD=Yh Yn k/\s9=Yh Yn (St.aA (f.take k):Nat)/\wr.ownsRow w.1.size 36 3 s8 (St.aY a b 0 (f.take k)).length (ak (St.aY a b 0 (f.take k)))/\ac w wr
theorem Hn(A:Option Addr)(n c:Nat)(f:List St.It)(a b:Nat)(w:Ys)(hn:f.length=n)(h:aH w A f)(hl:n<=100000)(ht:aV f<=1000000000000)(hab:a<=b)(hbl:b<=St.aA f) :
  Calls Tryz.prog 97 #[Yj A n c,Yh Yn a,Yh Yn b] w λe w'=>∃v,e=Yp (Ym #[v,Yk true])/\w'.ownsRow w.1.size 36 3 v (St.aY a b 0 f).length (ak (St.aY a b 0 f))/\ac w w':=by
 have H:=aa h;have HN:=aa hn;have hle:=aa (kY A n c f w hn h (by omega) (by omega));have BZ:=aa (show St.aA f<=2000000000000 by have:=gM f;omega);obtain⟨i0,hi,hz0,hz1,hz2⟩:=info_parts dH;have y1:¬(a:Int)<0:=by omega
 have y2:¬(b:Int)<(a:Int):=by omega
 have y3:¬((St.aA f:Nat):Int)<(b:Int):=by omega
 have y4:¬St.aA f<b:=by omega
 clear h hn;go_enter Tryz.func97,Tryz.ntmps97;go_wp2_with fail;refine hle.out.mono ?_;rintro e w1 ⟨rfl,hu1⟩;have iB:=aa hu1;clear hu1 hle;go_wp2_with fail;go_loopw [8,9,30] (λs8 s9 KD wr=>BD w a b f n s8 s9 KD wr) (λ_ _ KD _=>n+1-(intOf KD).toNat)
 case atStart=>exact⟨0,by omega,rfl,rfl,World.ownsRow_nil _ _ _ _,iB.out⟩
 case round=>
  obtain⟨k,hk,rfl,rfl,hown,hu⟩:=hrel;have HU:=aa hu;have HO:=aa hown;have hsz:=hu.size;clear hu y1 y2 y3 y4;have hN:=HN.out
  by_cases hlt:k<n
  ·clear hown;have aI:k<f.length:=by omega
   obtain⟨g,off,rfl,hg,hc⟩:=(H.out.ai HU.out) (by omega);obtain⟨c0,c1,c2⟩:=hc k aI;have hst:=Pq a b f k aI;have hlk:=OT f k aI;have eS:=Ht f (k+1);have hsl:=rq a b (f.take k) 0;have Wa:=BZ.out;have hx1:=K2 f k aI;have hx2:=ul f (k+1);generalize f[k]=x at c0 c1 c2 hst hlk hx1;obtain⟨kd,tx,id⟩:=x;simp only at c0 c1 c2 hx1;generalize hO:St.aY a b 0 (f.take k)=O at HO hst hsl;obtain⟨A8,c8,rfl,_,_,hA8⟩:=aR HO.out;have NS:O.length<=100000:=by simp at hsl;omega
   have htl:(⟨tx.toArray⟩:ByteArray).size=tx.length:=by show tx.toArray.size=_;simp
   obtain⟨m,hm⟩:∃m,m=St.aA (f.take k):=⟨_,rfl⟩;rw[<-hm]at hlk hst |-;obtain⟨lo,hlo⟩:∃lo,lo=max a m:=⟨_,rfl⟩;obtain⟨hi',hhi⟩:∃hi',hi'=min b (m+St.aZ (kd,tx,id)):=⟨_,rfl⟩;rw[RW a b m kd id tx hlo hhi]at hst;have hwd:=aa (λW=>xG kd tx id W);have hwt:kd=1->St.aZ (kd,tx,id)=tx.length:=λe=>by unfold St.aZ;rw[if_pos e]
   have hw1:St.aZ (kd,tx,id)<=tx.length+1:=by unfold St.aZ;split<;>simp<;>omega
   generalize St.aZ (kd,tx,id)=wd at hwd hlk hhi hwt hw1;obtain⟨N,hNN⟩:∃N,N=m+wd:=⟨_,rfl⟩;have eN:(m:Int)+(wd:Int)=(N:Int):=by omega
   have Rf:St.aA (f.take (k+1))=N:=by omega
   have lW:Hid (∀W v,W.ownsRow w.1.size 36 3 v (St.aY a b 0 (f.take (k+1))).length (ak (St.aY a b 0 (f.take (k+1))))->ac w W->BD w a b f n v (Yh Yn (N:Int)) (Yh Yn ((k:Int)+1)) W):=
    aa λW v h1 h2=>⟨k+1,by omega,congrArg (Yh Yn) (by omega),by rw[Rf],h1,h2⟩
   haveI:af g wr:=af.of hg;rw[<-hNN]at hhi;have hNb:N<=2000000000000:=by omega
   have HST:=aa hst;have V3:=aa hwt;have Xz:max (a:Int) (m:Int)=(lo:Int):=by omega
   have Xy:min (b:Int) (N:Int)=(hi':Int):=by omega
   clear hc aI hst Rf hlk hwt hm hNN;go_wp2_with fail;refine(hwd.out _).mono ?_;rintro e w3 ⟨rfl,hu3⟩;have bL:ac wr w3:=ac.trans (uZ) hu3;have hb3:=(hu3.below.block wr.1.size (by simp)).trans (heap_alloc_new wr (.cells #[Yh Yn kd,Yi ⟨tx.toArray⟩,Yh Yn id] 36));have d0:w3.cell? ⟨wr.1.size,0,none⟩=some (Yh Yn kd):=aj hb3 0;have d1:w3.cell? ⟨wr.1.size,1,none⟩=some (Yi ⟨tx.toArray⟩):=aj hb3 1;have d2:w3.cell? ⟨wr.1.size,2,none⟩=some (Yh Yn id):=aj hb3 2;have f1:w3.frozen? ⟨wr.1.size,1,none⟩=false:=bz hb3 1;haveI:af wr.1.size w3:=af.of (ae hb3);have a7:=aa (HU.out.trans bL);have fo:=aa (aF bL HO.out);have pE:=aa hb3;have Rv:=a7.out.size;clear hu3 bL hb3 c0 c1 c2 hwd;generalize cZ:wr.1.size=bx at *;have Vh:w.1.size<=bx:=by omega
   have lm:∀v,ac w (w3.setCell ⟨bx,1,none⟩ v):=λv=>ac.mk (a7.out.below.setCell Vh v)
   have rR:∀v,(w3.setCell ⟨bx,1,none⟩ v).ownsRow w.1.size 36 3 (Yj A8 O.length c8) O.length (ak O):=λv=>aD fo.out (λe=>by have:=(HO.out.lt _ e).2;omega)
   by_cases hll:lo<hi'
   ·have HS:=HST.out;rw[if_pos hll]at HS;have zl:(lo:Int)<(hi':Int):=by omega
    by_cases cN:kd=1
    ·subst cN;rw[if_pos rfl]at HS;have Wt:=V3.out rfl;obtain⟨p,hp⟩:∃p,p=lo-m:=⟨_,rfl⟩;obtain⟨q,hq⟩:∃q,q=hi' - m:=⟨_,rfl⟩;rw[<-hp,<-hq]at HS;have e1:(lo:Int)-(m:Int)=(p:Int):=by omega
     have e2:(hi':Int)-(m:Int)=(q:Int):=by omega
     have z2:(0:Int)<=(p:Int):=by omega
     have z3:(p:Int)<=(q:Int):=by omega
     have z4:(q:Int)<=(tx.length:Int):=by omega
     obtain⟨sx,pi⟩:∃sx:ByteArray,(⟨tx.toArray⟩:ByteArray).extract p q=sx:=⟨_,rfl⟩;have hsl:(tx.take q).drop p=sx.1.1:=by rw[<-pi,Lib.extract_data,List.drop_take]
     rw[hsl]at HS;have dy:=aa HS;have Xl:(⟨tx.toArray⟩:ByteArray).extract (max a m-m) (min b N-m)=sx:=by rw[<-hlo,<-hhi,<-hp,<-hq];exact pi
     have hfin:∀v' w4,w4.ownsRow w.1.size 36 3 v' (O.length+1) (ak O++[Yh Yn 1,Yi sx,Yh Yn id])->ac w w4->BD w a b f n v' (Yh Yn (N:Int)) (Yh Yn ((k:Int)+1)) w4:=λv' w4 h1 h2=>
      lW.out w4 v' (by rw[dy.out,bD,List.length_append,List.length_singleton,bn];exact h1) h2
     have dq:=aa hfin;have B8:=aa (And.intro lm rR);clear hfin HS hsl lm rR dy Wt hp hq;go_wp2_with (at_builtin;refine wpList_append_own _ rfl _ _ 37 rfl w.1.size 36 i0 (.agg #[.int .i64 0,.string ⟨#[]⟩,.int .i64 0]) 3 32 Tryz.underlying37 hi hz0 hz1 hz2 rfl (by decide) (.slice A8 O.length c8) O.length _ rfl ((B8.out.2 _).alloc _) _ 1 1 [.int .i64 1,.string sx,.int .i64 id] rfl rfl ?_ (cL _ _ _) (by unfold maxLen;omega) (by omega) ?_ ?_)
     all_goals try exact dW _ _ _ _ _ _ (by first|rfl|(simp;done))
     all_goals try (simp;omega;done)
     intro v' w4 hown' hgrow _;have HE:=aa (dq.out v' w4 hown' (((B8.out.1 _).alloc _).grown hgrow (λg hg=>aB fo.out g hg)));clear hown' hgrow;go_wp2;exact⟨HE.out,by simp[intOf];omega⟩
    rw[if_neg cN]at HS;have q1:(kd==1)=false:=by simpa using cN
    have dy:=aa HS
    have hfin:∀v' w4,w4.ownsRow w.1.size 36 3 v' (O.length+1) (ak O++[Yh Yn kd,Yi ⟨tx.toArray⟩,Yh Yn id])->ac w w4->BD w a b f n v' (Yh Yn (N:Int)) (Yh Yn ((k:Int)+1)) w4:=λv' w4 h1 h2=>
     lW.out w4 v' (by rw[dy.out,bD,List.length_append,List.length_singleton];exact h1) h2
    have dq:=aa hfin;clear hfin HS lm rR dy cN;go_wp2_with (at_builtin;refine wpList_append_own _ rfl _ _ 37 rfl w.1.size 36 i0 (.agg #[.int .i64 0,.string ⟨#[]⟩,.int .i64 0]) 3 32 Tryz.underlying37 hi hz0 hz1 hz2 rfl (by decide) (.slice A8 O.length c8) O.length _ rfl (fo.out.alloc _) _ 1 1 [.int .i64 kd,.string ⟨tx.toArray⟩,.int .i64 id] rfl rfl ?_ (cL _ _ _) (by unfold maxLen;omega) (by omega) ?_ ?_)
    all_goals try exact dW _ _ _ _ _ _ (by first|rfl|(simp;done))
    all_goals try (simp;omega;done)
    intro v' w4 hown' hgrow _;have HE:=aa (dq.out v' w4 hown' ((a7.out.alloc _).grown hgrow (λg hg=>aB fo.out g hg)));clear hown' hgrow;go_wp2;exact⟨HE.out,by simp[intOf];omega⟩
   have HS:=HST.out;rw[if_neg hll,List.append_nil]at HS;have zl:¬(lo:Int)<(hi':Int):=by omega
   have dq:=aa (lW.out w3 (Yj A8 O.length c8) (by rw[HS];exact fo.out) a7.out);clear HS lm rR hlo hhi;go_wp2;exact⟨dq.out,by simp[intOf];omega⟩
  have hkn:k=n:=by omega
  subst hkn;have hft:f.take k=f:=List.take_of_length_le (by omega);rw[hft]at hown;have jZ:=aa hown;clear hlt hft hown HO;go_wp2;go_ret2;exact⟨_,rfl,jZ.out,HU.out⟩
end
section
theorem DU(A B:Option Addr)(n m c d:Nat)(f g:List St.It)(w:Ys)(hn:f.length=n)(hm:g.length=m)(hc:n<=c)(hd:m<=d)(dG:c<=9223372036854775807)(fU:d<=9223372036854775807)(hA:aH w A f)(hB:aH w B g) :
  Calls Tryz.prog 93 #[Yj A n c,Yj B m d] w λe w'=>e=Yp (Yk (decide (f=g)))/\ac w w':=by
 by_cases be:n=m
 ·subst be;have HA:=aa hA;have HB:=aa hB;have HN:=aa hn;have HM:=aa hm;clear hA hB hn hm;go_enter Tryz.func93,Tryz.ntmps93;go_wp2;go_loopw [13] (λi wr=>Gs w f g n i wr) (λi _=>n+1-(intOf i).toNat)
  case atStart=>exact⟨0,by omega,rfl,rfl,ac.refl _⟩
  case round=>
   obtain⟨k,hk,rfl,hs,hu⟩:=hrel;have HU:=aa hu;have HS:=aa hs;clear hu hs
   by_cases hlt:k<n
   ·have hk1:k<f.length:=by rw[HN.out];exact hlt
    have hk2:k<g.length:=by rw[HM.out];exact hlt
    obtain⟨b,o,rfl,hb,hc1⟩:=(HA.out.ai HU.out) (by omega);obtain⟨b',o',rfl,hb',hc2⟩:=(HB.out.ai HU.out) (by omega);obtain⟨h1,h2,h3⟩:=hc1 k hk1;obtain⟨h1',h2',h3'⟩:=hc2 k hk2;have hst:=aa (λe=>uc HS.out hk1 hk2 e);have hne:f[k]≠g[k]->f≠g:=λh e=>h (by subst e;rfl)
    have iy:=aa hne;generalize f[k]=x at h1 h2 h3 hst iy;generalize g[k]=y at h1' h2' h3' hst iy;obtain⟨xk,xt,xi⟩:=x;obtain⟨yk,yt,yi⟩:=y;simp only at h1 h2 h3 h1' h2' h3';haveI:af b wr:=af.of hb;haveI:af b' wr:=af.of hb';clear hc1 hc2 hk1 hk2 hne;cases he:NN (xk,xt,xi) (yk,yt,yi)
    ·have hF:=aa (iy.out (of_decide_eq_false he));go_wp2_with fail;go_quiet (fail);go_wp2;go_ret;refine⟨az (decide_eq_false hF.out).symm,uZ⟩
    have hF:=aa (hst.out (of_decide_eq_true he));go_wp2_with fail;go_quiet (fail);go_wp2;refine⟨⟨k+1,by omega,rfl,hF.out,HU.out.trans uZ⟩,by simp[intOf];omega⟩
   obtain rfl:k=n:=by omega
   have hF:=aa (vY HS.out HN.out HM.out);clear hlt;go_wp2;go_ret;exact⟨az (decide_eq_true hF.out).symm,HU.out⟩
 have hF:=aa (show ¬f=g from λe=>be (by rw[<-hn,<-hm,e]));have z:((n:Int)==(m:Int))=false:=by simp;omega
 clear hA hB hn hm;go_enter Tryz.func93,Tryz.ntmps93;go_wp2;go_ret;exact⟨az (decide_eq_false hF.out).symm,ac.refl _⟩
theorem DV(A B:Option Addr)(n m c d:Nat)(f g:List St.Pt)(w:Ys)(hn:f.length=n)(hm:g.length=m)(hc:n<=c)(hd:m<=d)(dG:c<=9223372036854775807)(fU:d<=9223372036854775807)(hA:bk w A f)(hB:bk w B g) :
  Calls Tryz.prog 62 #[Yj A n c,Yj B m d] w λe w'=>e=Yp (Yk (decide (f=g)))/\ac w w':=by
 by_cases be:n=m
 ·subst be;have HA:=aa hA;have HB:=aa hB;have HN:=aa hn;have HM:=aa hm;clear hA hB hn hm;go_enter Tryz.func62,Tryz.ntmps62;go_wp2;go_loopw [13] (λi wr=>Gs w f g n i wr) (λi _=>n+1-(intOf i).toNat)
  case atStart=>exact⟨0,by omega,rfl,rfl,ac.refl _⟩
  case round=>
   obtain⟨k,hk,rfl,hs,hu⟩:=hrel;have HU:=aa hu;have HS:=aa hs;clear hu hs
   by_cases hlt:k<n
   ·have hk1:k<f.length:=by rw[HN.out];exact hlt
    have hk2:k<g.length:=by rw[HM.out];exact hlt
    obtain⟨b,o,rfl,hb,hc1⟩:=(HA.out.ai HU.out) (by omega);obtain⟨b',o',rfl,hb',hc2⟩:=(HB.out.ai HU.out) (by omega);obtain⟨h1,h2,h3⟩:=hc1 k hk1;obtain⟨h1',h2',h3'⟩:=hc2 k hk2;have hst:=aa (λe=>uc HS.out hk1 hk2 e);have hne:f[k]≠g[k]->f≠g:=λh e=>h (by subst e;rfl)
    have iy:=aa hne;generalize f[k]=x at h1 h2 h3 hst iy;generalize g[k]=y at h1' h2' h3' hst iy;obtain⟨xk,xt,xi⟩:=x;obtain⟨yk,yt,yi⟩:=y;simp only at h1 h2 h3 h1' h2' h3';haveI:af b wr:=af.of hb;haveI:af b' wr:=af.of hb';clear hc1 hc2 hk1 hk2 hne;cases he:NO (xk,xt,xi) (yk,yt,yi)
    ·have hF:=aa (iy.out (of_decide_eq_false he));go_wp2_with fail;go_quiet (fail);go_wp2;go_ret;refine⟨az (decide_eq_false hF.out).symm,uZ⟩
    have hF:=aa (hst.out (of_decide_eq_true he));go_wp2_with fail;go_quiet (fail);go_wp2;refine⟨⟨k+1,by omega,rfl,hF.out,HU.out.trans uZ⟩,by simp[intOf];omega⟩
   obtain rfl:k=n:=by omega
   have hF:=aa (vY HS.out HN.out HM.out);clear hlt;go_wp2;go_ret;exact⟨az (decide_eq_true hF.out).symm,HU.out⟩
 have hF:=aa (show ¬f=g from λe=>be (by rw[<-hn,<-hm,e]));have z:((n:Int)==(m:Int))=false:=by simp;omega
 clear hA hB hn hm;go_enter Tryz.func62,Tryz.ntmps62;go_wp2;go_ret;exact⟨az (decide_eq_false hF.out).symm,ac.refl _⟩
theorem Ka(A B:Option Addr)(n m c d:Nat)(f g:List St.It)(w:Ys)(hn:f.length=n)(hm:g.length=m)(hc:n<=c)(hd:m<=d)(dG:c<=9223372036854775807)(fU:d<=9223372036854775807)(h:aH w A f)(h':aH w B g) :
  Calls Tryz.prog 52 #[Yj A n c,Yj B m d] w λe w'=>e=Yp (Yk (decide (f=g)))/\ac w w':=by
 have HS:=aa (DU A B n m c d f g w hn hm hc hd dG fU h h');clear h h';go_enter Tryz.func52,Tryz.ntmps52;go_wp2_with fail;refine HS.out.mono ?_;rintro e w' ⟨rfl,hu⟩;have HU:=aa hu;clear hu;go_wp2;go_ret;exact⟨rfl,HU.out⟩
end
end Go.Proofs.YthoemdibbldndaaGreatDoor
namespace Go.Proofs.YthoemdibbldndaaGreatDoor.Mz
open Go.RowKit
def sG:Nat->List (Int × Value)->List MapEntry
 | _,[]=>[]
 | n,p :: l=>{ key:=Yh Yn p.1,val:=p.2,born:=n } :: sG (n+1) l
theorem CB(p:Int × Value):∀(l:List (Int × Value)) (n:Nat),sG n (l++[p])=sG n l++[{ key:=Yh Yn p.1,val:=p.2,born:=n+l.length }]
 | [],n=>by simp[sG]
 | q :: l,n=>by
  simp only[List.cons_append,sG,CB p l (n+1),List.length_cons];rw[show n+1+l.length=n+(l.length+1)by omega]
def look(k:Int):List (Int × Value)->Option Value
 | []=>none
 | p :: l=>if k=p.1 then some p.2 else look k l
theorem Ke(k:Int)(p:Int × Value)(l:List (Int × Value)):look k (l++[p])=match look k l with
  | some v=>some v
  | none=>if k=p.1 then some p.2 else none:=by
 induction l with
 | nil=>rfl
 | cons q l ih=>
  rw[List.cons_append,look,look]
  split
  ·rfl
  exact ih
theorem AC(k:Int)(l:List Int):look k (l.map λi=>(i,Yk true))=if k∈l then some (Yk true)else none:=by
 induction l with
 | nil=>rfl
 | cons i l ih=>
  rw[List.map_cons,look]
  by_cases h:k=i
  ·rw[if_pos h,if_pos (by simp[h])]
  rw[if_neg h,ih];simp[h]
theorem tz(k:Int):∀(l:List (Int × Value)) (n i:Nat),look k l=none->Instr.findNow (.int .i64) (.int .i64 k) (sG n l) i=some none
 | [],n,i,_=>rfl
 | p :: l,n,i,h=>by
  unfold look at h
  by_cases e:k=p.1
  ·rw[if_pos e]at h;simp at h
  rw[if_neg e]at h;have e':(k==p.1)=false:=by simpa using e
  simp only[sG,Instr.findNow,Instr.sameNow,if_true,e'];exact tz k l _ _ h
theorem zY(k:Int)(v:Value):∀(l:List (Int × Value)) (n i:Nat),look k l=some v->∃j,Instr.findNow (.int .i64) (.int .i64 k) (sG n l) i=some (some (j,v))
 | [],n,i,h=>by simp[look]at h
 | p :: l,n,i,h=>by
  unfold look at h
  by_cases e:k=p.1
  ·rw[if_pos e]at h;obtain rfl:p.2=v:=by simpa using h
   have e':(k==p.1)=true:=by simpa using e
   exact⟨i,by simp only[sG,Instr.findNow,Instr.sameNow,if_true,e']⟩
  rw[if_neg e]at h;have e':(k==p.1)=false:=by simpa using e
  obtain⟨j,hj⟩:=zY k v l (n+1) (i+1) h;exact⟨j,by simp only[sG,Instr.findNow,Instr.sameNow,if_true,e'];exact hj⟩
def At(w:Ys)(mb:Nat)(l:List (Int × Value)):Prop:=w.1[mb]?=some (.map (sG 0 l).toArray l.length)
def put(w:Ys)(mb:Nat)(l:List (Int × Value)):Ys:={ w with heap:=w.heap.setIfInBounds mb (.map (sG 0 l).toArray l.length) }
theorem At.lt{w:Ys}{mb:Nat}{l:List (Int × Value)}(h:At w mb l):mb<w.1.size:=ae h
theorem At.ai{a c:Ys}{mb:Nat}{l:List (Int × Value)}(h:At a mb l)(u:ac a c):At c mb l:=(u.below.block mb h.lt).trans h
theorem DB(w:Ys){mb b:Nat}(l:List (Int × Value))(h:b≠mb):(put w mb l).1[b]?=w.1[b]?:=by
 show(w.heap.setIfInBounds mb _)[b]?=_
 rw[Array.getElem?_setIfInBounds_ne (Ne.symm h)]
theorem Kr{w:Ys}{mb:Nat}{l0:List (Int × Value)}(h:At w mb l0)(l:List (Int × Value)):At (put w mb l) mb l:=by
 show(w.heap.setIfInBounds mb _)[mb]?=_
 have:=h.lt
 simp[this]
theorem Mw(w:Ys)(mb:Nat)(l:List (Int × Value)):(put w mb l).1.size=w.1.size:=by
 show(w.heap.setIfInBounds mb _).size=_;simp
theorem FR{w W:Ys}{mb:Nat}(l:List (Int × Value))(h:ac w W)(hb:w.1.size<=mb):ac w (put W mb l):=by
 have b:=h.below;exact ac.mk ⟨b.os,b.tape,b.output,by rw[Mw];exact b.size,λk hk=>(DB W l (by omega)).trans (b.block k hk)⟩
theorem O5{W:Ys}{mb B e size n:Nat}{v:Value}{xs:List Value}{l0:List (Int × Value)}(l:List (Int × Value))(h:W.ownsRow B e size v n xs)(ha:At W mb l0):(put W mb l).ownsRow B e size v n xs:=by
 refine⟨h.1,?_⟩;rcases h.2 with h0|⟨g,cap,cur,rfl,hb,hg,hr⟩
 ·exact .inl h0
 refine .inr ⟨g,cap,cur,rfl,hb,(DB W l λe=>?_).trans hg,hr⟩;subst e;rw[ha]at hg;cases hg
theorem vr{w w':Ys}{mb B e size n:Nat}{v:Value}{xs:List Value}{l:List (Int × Value)}(h:At w mb l)(hg:w.grownBy w' v.ownBlock)(ho:w.ownsRow B e size v n xs):At w' mb l:=by
 refine(hg.block mb h.lt λe=>?_).trans h;rcases ho.2 with⟨rfl,_⟩|⟨g,cap,cur,rfl,_,hgb,_⟩
 ·simp[Value.ownBlock]at e
 simp only[Value.ownBlock,Option.some.injEq]at e;subst e;rw[h]at hgb;cases hgb
section
variable {T et:TypeId} (hm:Tryz.prog.underlying T=some (.map 3 et))
include hm
theorem F0{w:Ys}{mb:Nat}{l:List (Int × Value)}{k:Int}(v:Value)(ha:At w mb l)(h:look k l=none) :
  (Instr.mapUpdate T (.map (some mb)) (Yh Yn k) v).run Tryz.prog w=.ok () (put w mb (l++[(k,v)])):=by
 have hd:Tryz.prog.underlying 3=some (.int .i64):=by kernel_rfl
 have hf:=tz k l 0 0 h;have hk:MapKept.IsKey (.int .i64) (.int .i64 k):=by simp[MapKept.IsKey]
 simp[Instr.mapUpdate,run_underlying hm,MapKept.run_getObj_map ha,MapKept.run_checkKey hd hk,MapKept.run_findKey hd hf,MapKept.run_setObj_map _ ha,Result.andThen];simp[put,CB]
theorem run_get{w:Ys}{mb:Nat}{l:List (Int × Value)}{k:Int}{v:Value}(ok:Bool)(ha:At w mb l)(h:look k l=some v) :
  (Instr.lookup T (.map (some mb)) (Yh Yn k) ok).run Tryz.prog w=.ok (if ok then Ym #[v,Yk true]else v) w:=by
 have hd:Tryz.prog.underlying 3=some (.int .i64):=by kernel_rfl
 obtain⟨j,hf⟩:=zY k v l 0 0 h;have hk:MapKept.IsKey (.int .i64) (.int .i64 k):=by simp[MapKept.IsKey]
 cases ok<;>simp[Instr.lookup,run_underlying hm,MapKept.run_getObj_map ha,MapKept.run_checkKey hd hk,MapKept.run_findKey hd hf,Result.andThen]
theorem Kz{w:Ys}{mb:Nat}{l:List (Int × Value)}{k:Int}{z:Value}(ok:Bool)(hz:(zeroValue et).run Tryz.prog w=.ok z w)(ha:At w mb l)(h:look k l=none) :
  (Instr.lookup T (.map (some mb)) (Yh Yn k) ok).run Tryz.prog w=.ok (if ok then Ym #[z,Yk false]else z) w:=by
 have hd:Tryz.prog.underlying 3=some (.int .i64):=by kernel_rfl
 have hf:=tz k l 0 0 h;have hk:MapKept.IsKey (.int .i64) (.int .i64 k):=by simp[MapKept.IsKey]
 cases ok<;>simp[Instr.lookup,run_underlying hm,MapKept.run_getObj_map ha,MapKept.run_checkKey hd hk,MapKept.run_findKey hd hf,hz,Result.andThen]
end
end Go.Proofs.YthoemdibbldndaaGreatDoor.Mz
namespace Go.Proofs.YthoemdibbldndaaGreatDoor
open Go.RowKit
section
def zc(l:List Int):List Value:=l.map (Yh Yn)
theorem PC(l:List Int)(i:Int):zc (l++[i])=zc l++[Yh Yn i]:=by simp[zc]
theorem R9{w:Ys}{B n c:Nat}{A:Option Addr}{zs:List Int}(h:w.ownsRow B 3 1 (Yj A n c) n (zc zs))(hn:zs.length=n):fq w A zs:=by
 intro h0;obtain⟨g,rfl,_,hg,hc⟩:=dU h (by omega);refine⟨g,0,rfl,hg,λi hi=>?_⟩;rw[Nat.zero_add];exact hc i _ (by unfold zc;rw[List.getElem?_map,List.getElem?_eq_getElem hi];simp[List.getD_eq_getElem?_getD,hi])
theorem RD(f:List St.It)(k:Nat)(h:k<f.length):(f.take (k+1)).foldl St.cS []=St.cS ((f.take k).foldl St.cS []) f[k]:=by
 rw[List.take_add_one,List.getElem?_eq_getElem h,List.foldl_append];rfl
def NA(w:Ys)(f:List St.It)(n mb:Nat)(s3 db:Value)(wr:Ys):Prop:=
 ∃(k:Nat) (l:List Int),k<=n/\db=Yh Yn k/\l=(f.take k).foldl St.cS []/\l.length<=k/\wr.ownsRow w.1.size 3 1 s3 l.length (zc l)/\Mz.At wr mb (l.map λi=>(i,Yk true))/\ac w wr
theorem Mc(A:Option Addr)(n c:Nat)(f:List St.It)(w:Ys)(hn:f.length=n)(h:aH w A f)(hl:n<=100000) :
  Calls Tryz.prog 94 #[Yj A n c] w λe w'=>∃v,e=Yp v/\(St.iX f).length<=n/\w'.ownsRow w.1.size 3 1 v (St.iX f).length (zc (St.iX f))/\ac w w':=by
 have H:=aa h;have HN:=aa hn;obtain⟨ii,ki,kz0,kz1,kz2⟩:=info_parts fO;have hm:Tryz.prog.underlying 183=some (.map 3 4):=by kernel_rfl
 have hmk:∀W:Ys,(Instr.makeMap 183 none).run Tryz.prog W=.ok (.map (some W.1.size)) (W.alloc (.map #[] 0)):=λW=>rfl
 have ES:=aa hm;have hzb:=aa (λW:Ys=>(show(zeroValue 4).run Tryz.prog W=.ok (Yk false) W by go_simp));clear h hn hm;go_enter Tryz.func94,Tryz.ntmps94;go_wp2_with fail;go_loopw [3,10] (λs3 db wr=>NA w f n w.1.size s3 db wr) (λ_ db _=>n+1-(intOf db).toNat)
 case atStart=>exact⟨0,[],by omega,rfl,rfl,by simp,World.ownsRow_nil _ _ _ _,heap_alloc_new w _,(ac.refl w).alloc _⟩
 case round=>
  obtain⟨k,l,hk,rfl,hle,hll,hown,hat,hu⟩:=hrel;have HU:=aa hu;have hsz:=hu.size;have HOW:=aa hown;have IP:=aa hat;have wG:=aa hle;have hN:=HN.out;obtain⟨AO,cO,rfl,_⟩:=aJ hown;clear hu hle hown hat hmk
  by_cases hlt:k<n
  ·have aI:k<f.length:=by omega
   obtain⟨b,off,rfl,hb,hc⟩:=(H.out.ai HU.out) (by omega);obtain⟨c0,c1,c2⟩:=hc k aI;have hnt:=RD f k aI;rw[<-wG.out]at hnt;generalize f[k]=x at c0 c1 c2 hnt;obtain⟨kd,tx,id⟩:=x;simp only at c0 c1 c2;have hit:=λt W=>rT kd t id W
   have lS:=aa hnt;haveI:af b wr:=af.of hb;clear hc aI hnt;cases cC:St.aQ kd
   ·rw[cC]at hit;have HIT:=aa hit;have he:=aa (show St.cS l (kd,tx,id)=l by unfold St.cS;rw[if_neg (by simp[cC])]);clear hit cC;go_wp2_with fail;refine(HIT.out _ _).mono ?_;rintro e w3 ⟨rfl,hu3⟩;have a7:=aa (ac.trans (uZ) hu3:ac wr w3);clear hu3 c0 c1 c2;go_wp2;exact⟨⟨k+1,l,by omega,congrArg (Yh Yn) (by omega),by rw[lS.out,he.out],by omega,aF a7.out HOW.out,IP.out.ai a7.out,HU.out.trans a7.out⟩,by simp[intOf];omega⟩
   rw[cC]at hit;have HIT:=aa hit;clear hit;go_wp2_with fail;refine(HIT.out _ _).mono ?_;rintro e w3 ⟨rfl,hu3⟩;have bL:ac wr w3:=ac.trans (uZ) hu3;have d2:w3.cell? ⟨wr.1.size,2,none⟩=some (Yh Yn id):=(hu3.cell (p:=⟨wr.1.size,2,none⟩) (by simp)).trans (by simp);haveI:af wr.1.size w3:=af.of (cx _ _ d2);have rP:=IP.out.ai bL;have Us:=aa rP;have a7:=aa bL;have j1:=aa (aF bL HOW.out);have U3:=rP.lt;have Xq:w.1.size<wr.1.size:=IP.out.lt;clear hu3 bL c0 c1 c2
   by_cases hmem:id∈l
   ·have hlk:=Mz.run_get ES.out false rP (show Mz.look id _=some (Yk true)by rw[Mz.AC,if_pos hmem]);simp only[Bool.false_eq_true,if_false]at hlk;have he:=aa (show St.cS l (kd,tx,id)=l by unfold St.cS;rw[if_neg (by rintro ⟨_,h⟩;exact h hmem)]);clear hmem cC rP;go_wp2;exact⟨⟨k+1,l,by omega,congrArg (Yh Yn) (by omega),by rw[lS.out,he.out],by omega,j1.out,Us.out,HU.out.trans a7.out⟩,by simp[intOf];omega⟩
   have sN:Mz.look id (l.map λi=>(i,Yk true))=none:=by rw[Mz.AC,if_neg hmem]
   have hlk:=Mz.Kz ES.out false (hzb.out w3) rP sN;simp only[Bool.false_eq_true,if_false]at hlk;have hpt:=Mz.F0 ES.out (Yk true) rP sN;have he:=aa (show St.cS l (kd,tx,id)=l++[id]by unfold St.cS;rw[if_pos ⟨cC,hmem⟩]);have fu:(l.map λi=>(i,Yk true))++[(id,Yk true)]=(l++[id]).map λi=>(i,Yk true):=by simp
   rw[fu]at hpt;obtain⟨w4,hw4⟩:∃w4,w4=Mz.put w3 w.1.size ((l++[id]).map λi=>(i,Yk true)):=⟨_,rfl⟩;have bf:ac w w4:=by rw[hw4];exact Mz.FR _ (HU.out.trans a7.out) (Nat.le_refl _)
   have jz:w4.ownsRow w.1.size 3 1 (Yj AO l.length cO) l.length (zc l):=by rw[hw4];exact Mz.O5 _ j1.out rP
   have QT:Mz.At w4 w.1.size ((l++[id]).map λi=>(i,Yk true)):=by rw[hw4];exact Mz.Kr rP _
   have m2:w4.cell? ⟨wr.1.size,2,none⟩=some (.int .i64 id):=(World.cell?_of_block (a:=⟨wr.1.size,2,none⟩) (show w4.1[wr.1.size]?=w3.1[wr.1.size]? by rw[hw4];exact Mz.DB w3 _ (by omega))).trans d2;rw[<-hw4]at hpt;haveI:af wr.1.size w4:=af.of (cx _ _ m2);have fj:=aa bf;have iA:=aa jz;have Ut:=aa QT;have hs4:=bf.size;clear hmem cC rP sN fu hw4 bf jz QT;go_wp2_with (at_builtin;refine wpList_append_own _ rfl _ _ 42 rfl w.1.size 3 ii (.int .i64 0) 1 8 Tryz.underlying42 ki kz0 kz1 kz2 rfl (by decide) (.slice AO l.length cO) l.length (zc l) rfl (iA.out.alloc _) _ 1 1 [.int .i64 id] rfl rfl ?_ (by simp;rfl) (by unfold maxLen;omega) (by omega) ?_ ?_)
   ·exact gy _ _ _
   ·simp;omega
   intro v' w5 dC fc _;rw[<-PC]at dC;have QU:=Mz.vr (Ut.out.ai ((ac.refl w4).alloc (.cells #[Yh Yn id] 3))) fc (iA.out.alloc _);have bg:ac w w5:=(fj.out.alloc _).grown fc (λg hg=>aB iA.out g hg);have HE:=aa (show NA w f n w.1.size v' (Yh Yn ((k:Int)+1)) w5 from⟨k+1,l++[id],by omega,congrArg (Yh Yn) (by omega),by rw[lS.out,he.out],by simp;omega,by rw[List.length_append,List.length_singleton];exact dC,QU,bg⟩);clear dC fc bg QU;go_wp2;exact⟨HE.out,by simp[intOf];omega⟩
  have hkn:k=n:=by omega
  subst hkn;have hft:f.take k=f:=List.take_of_length_le (by omega);have hl2:l=St.iX f:=by rw[wG.out,hft];rfl
  subst hl2;clear hlt hft wG;go_wp2;go_ret;exact⟨_,rfl,hll,HOW.out,HU.out⟩
end
section
theorem Kg(N:Nat)(hN:N<=1000000):∃cs:Array Value,(∀W:Ys,(Instr.makeSlice 42 (Yh Yn (N:Int)) (Yh Yn (N:Int))).run Tryz.prog W=.ok (Yj (some ⟨W.1.size,0,none⟩) N N) (W.alloc (.cells cs 3)))/\cs.size=N:=by
 obtain⟨i,hi,hz0,hz1,hz2⟩:=info_parts fO;refine⟨madeCells (Value.cells (Yh Yn 0)) (N*i.size),λW=>?_,?_⟩
 ·have:=run_make (P:=Tryz.prog) W 42 3 i (.int .i64 0) Tryz.underlying42 hi hz0 .i64 .i64 (N:Int) (N:Int) (by omega) (by omega) (by rw[hz2];omega) (by omega)
  simpa using this
 rw[size_madeCells,hz1,Nat.mul_one]
def M9(w:Ys)(n:Nat)(s9:Value)(wr:Ys):Prop:=
 ∃(i:Nat) (cur:Array Value),s9=Yh Yn i/\i<=n/\wr.1[w.1.size]?=some (.cells cur 3 (0,0))/\cur.size=n/\(∀j,j<i->cur[j]?=some (Yh Yn ((j:Int)+1)))/\ac w wr
theorem Ga{q p:Nat}(h:p<q):(St.jD q).getD p 0=(p:Int)+1:=by
 unfold St.jD;rw[List.getD_eq_getElem?_getD,List.getElem?_map,List.getElem?_range h];rfl
theorem Hj(n:Nat)(w:Ys)(hn:n<=100000) :
  Calls Tryz.prog 96 #[Yh Yn (n:Int)] w λe w'=>∃A c,e=Yp (Yj A n c)/\fq w' A (St.jD n)/\n<=c/\c<=9223372036854775807/\ac w w':=by
 obtain⟨cz,hmk,hcz⟩:=Kg n (by omega);go_enter Tryz.func96,Tryz.ntmps96;go_wp2_with fail;go_loopw [9] (λs9 wr=>M9 w n s9 wr) (λs9 _=>n+1-(intOf s9).toNat)
 case atStart=>exact⟨0,cz,rfl,by omega,heap_alloc_new w _,hcz,λj hj=>absurd hj (by omega),(ac.refl w).alloc _⟩
 case round=>
  obtain⟨i,cur,rfl,hi,hh,hc,hj,hu⟩:=hrel;have HU:=aa hu;have HH:=aa hh;have HJ:=aa hj;have HC:=aa hc;haveI:af w.1.size wr:=af.of (ae hh)
  by_cases hlt:i<n
  ·obtain⟨x0,g0⟩:∃x0,wr.cell? ⟨w.1.size,i,none⟩=some x0:=⟨cur[i]'(by omega),by rw[aj hh i,Array.getElem?_eq_getElem]⟩;have f0:wr.frozen? ⟨w.1.size,i,none⟩=false:=bz hh i
   have hfin:=aa (show M9 w n (Yh Yn ((i:Int)+1)) (wr.setCell ⟨w.1.size,i,none⟩ (Yh Yn ((i:Int)+1)))from
    ⟨i+1,cur.setIfInBounds i (Yh Yn ((i:Int)+1)),congrArg (Yh Yn) (by omega),by omega,heap_setCell_same wr w.1.size i _ _ _ hh,by simp[hc],λj hj'=>by
     by_cases e:j=i
     ·subst e;rw[Array.getElem?_setIfInBounds_self_of_lt (by omega)]
     rw[Array.getElem?_setIfInBounds_ne (by omega)];exact HJ.out j (by omega),ac.mk (HU.out.below.setCell (p:=⟨w.1.size,i,none⟩) (Nat.le_refl _) _)⟩)
   clear hu hh hj hc;go_wp2;exact⟨hfin.out,by simp[intOf];omega⟩
  obtain rfl:i=n:=by omega
  have hfin:=aa (show fq wr (some ⟨w.1.size,0,none⟩) (St.jD i)from λ_=>⟨w.1.size,0,rfl,ae hh,λj hj'=>by
   rw[St.nu]at hj'
   rw[Nat.zero_add,aj hh j,hj j hj',Ga hj']⟩)
  clear hu hh hj hc hlt;go_wp2;go_ret;exact⟨_,_,rfl,hfin.out,Nat.le_refl _,by omega,HU.out⟩
def yl(W:Ys)(mb:Nat)(F:List Int)(j:Nat):Prop:=∃l,Mz.At W mb l/\∀i,Mz.look i l=if i∈F.drop j then some (Yh Yn ((F.idxOf i:Int)+1))else none
theorem yl.ai{a c:Ys}{mb j:Nat}{F:List Int}(h:yl a mb F j)(u:ac a c):yl c mb F j:=by
 obtain⟨l,h1,h2⟩:=h;exact⟨l,h1.ai u,h2⟩
def NB(w:Ys)(F:List Int)(s8:Value)(wr:Ys):Prop:=∃j:Nat,s8=Yh Yn ((j:Int)-1)/\j<=F.length/\yl wr w.1.size F j/\ac w wr
def BE(w:Ys)(f:List St.It)(F:List Int)(n:Nat)(s9 KF:Value)(wr:Ys):Prop:=
 ∃k:Nat,k<=n/\KF=Yh Yn k/\wr.ownsRow w.1.size 36 3 s9 k (ak ((f.take k).map (St.dN F)))/\yl wr w.1.size F 0/\ac w wr
theorem MC(f:List St.It)(F:List Int)(k:Nat)(h:k<f.length):ak ((f.take (k+1)).map (St.dN F))=ak ((f.take k).map (St.dN F))++[Yh Yn (St.dN F f[k]).1,Yi ⟨(St.dN F f[k]).2.1.toArray⟩,Yh Yn (St.dN F f[k]).2.2]:=by
 rw[List.take_add_one,List.getElem?_eq_getElem h,List.map_append];exact bD _ _
theorem Pc(f:List St.It)(F:List Int):aV (f.map (St.dN F))=aV f:=by
 unfold aV;rw[List.map_map];congr 1;refine List.map_congr_left λx _=>?_
 show(St.dN F x).2.1.length=_
 unfold St.dN;split<;>rfl
theorem Mf(A B C:Option Addr)(n c q d e0:Nat)(f:List St.It)(F:List Int)(w:Ys)(hn:f.length=n)(hq:F.length=q)(h:aH w A f)(hB:fq w B F)(hC:fq w C (St.jD q))(hnd:F.Nodup)(hall:∀x∈f,St.aQ x.1=true->x.2.2∈F)(hl:n<=100000)(qZ:q<=100000)(ht:aV f<=1000000000000) :
  Calls Tryz.prog 95 #[Yj A n c,Yj B q d,Yj C q e0] w λe w'=>∃v,e=Yp v/\w'.ownsRow w.1.size 36 3 v (St.bl (f.map (St.dN F))).length (ak (St.bl (f.map (St.dN F))))/\ac w w':=by
 have H:=aa h;have HN:=aa hn;have HQ:=aa hq;have HB:=aa hB;have HC:=aa hC;have ET:=aa hnd;have Lb:=aa hall;have HT:=aa ht;have hm:Tryz.prog.underlying 184=some (.map 3 3):=by kernel_rfl
 have hmk:∀W:Ys,(Instr.makeMap 184 none).run Tryz.prog W=.ok (.map (some W.1.size)) (W.alloc (.map #[] 0)):=λW=>rfl
 have ES:=aa hm;obtain⟨i0,hi,hz0,hz1,hz2⟩:=info_parts dH;clear h hn hq hB hC hnd hall ht hm;have Aq:min (q:Int) (q:Int)=(q:Int):=by omega
 go_enter Tryz.func95,Tryz.ntmps95;go_wp2_with fail;go_loopw [8] (λs8 wr=>NB w F s8 wr) (λs8 _=>(intOf s8+1).toNat)
 case atStart=>exact⟨q,rfl,by rw[HQ.out];omega,⟨[],heap_alloc_new w _,λi=>by rw[List.drop_of_length_le (by rw[HQ.out];omega)];rfl⟩,(ac.refl w).alloc _⟩
 case round=>
  obtain⟨j,rfl,hj,hnw,hu⟩:=hrel;have HU:=aa hu;have hQ:=HQ.out
  by_cases N0:0<j
  ·obtain⟨m,rfl⟩:∃m,j=m+1:=⟨j-1,by omega⟩;have z1:((m+1:Nat):Int)-1=(m:Int):=by omega
   have z2:(0:Int)<=(m:Int):=by omega
   have z3:(m:Int)<(q:Int):=by omega
   obtain⟨b1,o1,rfl,hb1,hc1⟩:=(HB.out.ai hu) (by omega);obtain⟨b2,o2,rfl,hb2,hc2⟩:=(HC.out.ai hu) (by rw[St.nu];omega);have e1:=hc1 m (by omega);have e2:=hc2 m (by rw[St.nu];omega);rw[Ga (by omega)]at e2;have Rh:m<F.length:=by omega
   have NZ:F.getD m 0=F[m]:=by rw[List.getD_eq_getElem?_getD,List.getElem?_eq_getElem Rh];rfl
   have hdr:F.drop m=F[m] :: F.drop (m+1):=List.drop_eq_getElem_cons Rh;have bP:F.idxOf F[m]=m:=ET.out.idxOf_getElem m Rh
   have be:F[m] ∉ F.drop (m+1):=by
    have hs:(F.drop m).Nodup:=ET.out.sublist (List.drop_sublist _ _);rw[hdr]at hs;exact(List.nodup_cons.1 hs).1
   rw[NZ]at e1;obtain⟨l,hat,hlk⟩:=hnw;have sN:Mz.look F[m] l=none:=by rw[hlk,if_neg be]
   have xv:Mz.At wr.drew w.1.size l:=hat;have hpt:=Mz.F0 ES.out (Yh Yn ((m:Int)+1)) xv sN
   have hfin:=aa (show NB w F (Yh Yn ((m:Int)-1)) (Mz.put wr.drew w.1.size (l++[(F[m],Yh Yn ((m:Int)+1))]))from
    ⟨m,rfl,by omega,⟨_,Mz.Kr xv _,λi=>by
     rw[Mz.Ke,hlk,hdr]
     by_cases h1:i∈F.drop (m+1)
     ·rw[if_pos h1,if_pos (List.mem_cons_of_mem _ h1)]
     rw[if_neg h1]
     by_cases h2:i=F[m]
     ·simp only[if_pos h2];rw[if_pos (by rw[h2];exact List.mem_cons_self),h2,bP]
     simp only[if_neg h2]
     rw[if_neg (by intro e;rcases List.mem_cons.1 e with e|e;exact h2 e;exact h1 e)]⟩,Mz.FR _ (HU.out.drew) (Nat.le_refl _)⟩)
   generalize F[m]=fm at e1 hpt hfin;haveI:af b1 wr:=af.of hb1;haveI:af b2 wr:=af.of hb2;clear hu hc1 hc2 hat hlk sN NZ hdr bP be xv;rw[z1];go_wp2_with fail;go_region_law (fail)
   all_goals
    go_wp2;exact⟨hfin.out,by first|(simp[intOf];done)|(simp[intOf];omega)⟩
  obtain rfl:j=0:=by omega
  have EV:=aa hnw;have z1:¬(0:Int)<=((0:Nat):Int)-1:=by omega
  clear hu hnw N0 hmk;go_wp2_with fail;go_loopw [9,36] (λs9 KF wr=>BE w f F n s9 KF wr) (λ_ KF _=>n+1-(intOf KF).toNat)
  case atStart=>exact⟨0,by omega,rfl,World.ownsRow_nil _ _ _ _,EV.out,HU.out⟩
  case round=>
   clear EV HU;obtain⟨k,hk,rfl,hown,hnw,hu⟩:=hrel;have HU:=aa hu;have hsz:=hu.size;have HOW:=aa hown;have EV:=aa hnw;have hN:=HN.out;obtain⟨AO,cO,rfl,_⟩:=aJ hown;clear hu hnw
   by_cases hlt:k<n
   ·clear hown;have aI:k<f.length:=by omega
    obtain⟨b,off,rfl,hb,hc⟩:=(H.out.ai HU.out) (by omega);obtain⟨c0,c1,c2⟩:=hc k aI;have kX:=MC f F k aI;have hal:=Lb.out f[k] (List.getElem_mem aI);generalize f[k]=x at c0 c1 c2 kX hal;obtain⟨kd,tx,id⟩:=x;simp only at c0 c1 c2 hal;have hit:=λt W=>rT kd t id W
    haveI:af b wr:=af.of hb
    have hbb:∀(i:Int) (v':Value) (w4:Ys),St.dN F (kd,tx,id)=(kd,tx,i)->w4.ownsRow w.1.size 36 3 v' (k+1) (ak ((f.take k).map (St.dN F))++[Yh Yn kd,Yi ⟨tx.toArray⟩,Yh Yn i])->yl w4 w.1.size F 0->ac w w4->BE w f F n v' (Yh Yn ((k:Int)+1)) w4:=λi v' w4 e h1 h2 h3=>
     ⟨k+1,by omega,congrArg (Yh Yn) (by omega),by rw[kX,e];exact h1,h2,h3⟩
    have dq:=aa hbb;clear hc aI kX hbb;cases cN:St.aQ kd
    ·rw[cN]at hit;have HIT:=aa hit;have hre:=aa (show St.dN F (kd,tx,id)=(kd,tx,id)by unfold St.dN;rw[if_neg (by simp[cN])]);clear hit cN hal;go_wp2_with fail;refine(HIT.out _ _).mono ?_;rintro e w3 ⟨rfl,hu3⟩;have bL:ac wr w3:=ac.trans (uZ) hu3;have d0:w3.cell? ⟨wr.1.size,0,none⟩=some (.int .i64 kd):=(hu3.cell (p:=⟨wr.1.size,0,none⟩) (by simp)).trans (by simp);have d1:w3.cell? ⟨wr.1.size,1,none⟩=some (.string ⟨tx.toArray⟩):=(hu3.cell (p:=⟨wr.1.size,1,none⟩) (by simp)).trans (by simp);have d2:w3.cell? ⟨wr.1.size,2,none⟩=some (.int .i64 id):=(hu3.cell (p:=⟨wr.1.size,2,none⟩) (by simp)).trans (by simp);haveI:af wr.1.size w3:=af.of (cx _ _ d0);have a7:=aa (HU.out.trans bL);have j1:=aa (aF bL HOW.out);have UF:=aa (EV.out.ai bL);have hs3:=a7.out.size;clear hu3 bL c0 c1 c2;go_wp2_with (at_builtin;refine wpList_append_own _ rfl _ _ 37 rfl w.1.size 36 i0 (.agg #[.int .i64 0,.string ⟨#[]⟩,.int .i64 0]) 3 32 Tryz.underlying37 hi hz0 hz1 hz2 rfl (by decide) (.slice AO k cO) k _ rfl (j1.out.alloc _) _ 1 1 [.int .i64 kd,.string ⟨tx.toArray⟩,.int .i64 id] rfl rfl ?_ (cL _ _ _) (by unfold maxLen;omega) (by omega) ?_ ?_)
     all_goals try exact dW _ _ _ _ _ _ rfl
     all_goals try (simp;omega;done)
     intro v' w4 hown' hgrow _;have HE:=aa (dq.out id v' w4 hre.out (by rw[List.map_take];exact hown') (by obtain⟨l,h1,h2⟩:=UF.out;exact⟨l,Mz.vr (h1.ai ((ac.refl w3).alloc _)) hgrow (j1.out.alloc _),h2⟩) ((a7.out.alloc _).grown hgrow (λg hg=>aB j1.out g hg)));clear hown' hgrow;go_wp2;exact⟨HE.out,by simp[intOf];omega⟩
    rw[cN]at hit;have HIT:=aa hit;have hin:=hal cN;obtain⟨xO,hnid⟩:∃xO:Int,xO=(F.idxOf id:Int)+1:=⟨_,rfl⟩;have hre:=aa (show St.dN F (kd,tx,id)=(kd,tx,xO)by unfold St.dN;rw[if_pos (by simp[cN]),hnid]);clear hit cN hal;go_wp2_with fail;refine(HIT.out _ _).mono ?_;rintro e w3 ⟨rfl,hu3⟩;have bL:ac wr w3:=ac.trans (uZ) hu3;have hb3:=(hu3.below.block wr.1.size (by simp)).trans (heap_alloc_new wr (.cells #[Yh Yn kd,Yi ⟨tx.toArray⟩,Yh Yn id] 36));have d0:w3.cell? ⟨wr.1.size,0,none⟩=some (Yh Yn kd):=aj hb3 0;have d1:w3.cell? ⟨wr.1.size,1,none⟩=some (Yi ⟨tx.toArray⟩):=aj hb3 1;have d2:w3.cell? ⟨wr.1.size,2,none⟩=some (Yh Yn id):=aj hb3 2;have f2:w3.frozen? ⟨wr.1.size,2,none⟩=false:=bz hb3 2;haveI:af wr.1.size w3:=af.of (ae hb3);have a7:=aa (HU.out.trans bL);have j1:=aa (aF bL HOW.out);have U7:=EV.out.ai bL;obtain⟨l,hat,hlk⟩:=U7;have hget:=Mz.run_get ES.out true hat (show Mz.look id l=some (Yh Yn xO)by rw[hlk,if_pos (by simpa using hin),hnid]);simp only[if_true]at hget;have hs3:=a7.out.size;have U3:w.1.size<wr.1.size:=by obtain⟨l0,h1,_⟩:=EV.out;exact h1.lt
    have lm:ac w (w3.setCell ⟨wr.1.size,2,none⟩ (.int .i64 xO)):=ac.mk (a7.out.below.setCell (p:=⟨wr.1.size,2,none⟩) hsz _);have rR:(w3.setCell ⟨wr.1.size,2,none⟩ (.int .i64 xO)).ownsRow w.1.size 36 3 (.slice AO k cO) k (ak ((f.take k).map (St.dN F))):=aD j1.out (λe=>by have:=(HOW.out.lt _ e).2;omega);have N9:Mz.At (w3.setCell ⟨wr.1.size,2,none⟩ (.int .i64 xO)) w.1.size l:=(Below.heap_setCell w3 ⟨wr.1.size,2,none⟩ _ w.1.size (by simp;omega)).trans hat;have B8:=aa (And.intro lm (And.intro rR N9));have sX:=aa hlk;clear hu3 bL c0 c1 c2 hb3 lm rR N9 hat hlk hin hnid;go_wp2_with (at_builtin;refine wpList_append_own _ rfl _ _ 37 rfl w.1.size 36 i0 (.agg #[.int .i64 0,.string ⟨#[]⟩,.int .i64 0]) 3 32 Tryz.underlying37 hi hz0 hz1 hz2 rfl (by decide) (.slice AO k cO) k _ rfl (B8.out.2.1.alloc _) _ 1 1 [.int .i64 kd,.string ⟨tx.toArray⟩,.int .i64 xO] rfl rfl ?_ (cL _ _ _) (by unfold maxLen;omega) (by omega) ?_ ?_)
    all_goals try exact dW _ _ _ _ _ _ (by first|rfl|(simp;done))
    all_goals try (simp;omega;done)
    intro v' w4 hown' hgrow _;have HE:=aa (dq.out xO v' w4 hre.out (by rw[List.map_take];exact hown') ⟨l,Mz.vr (B8.out.2.2.ai ((ac.refl _).alloc _)) hgrow (B8.out.2.1.alloc _),sX.out⟩ ((B8.out.1.alloc _).grown hgrow (λg hg=>aB j1.out g hg)));clear hown' hgrow;go_wp2;exact⟨HE.out,by simp[intOf];omega⟩
   have hkn:k=n:=by omega
   subst hkn;have hft:f.take k=f:=List.take_of_length_le (by omega);rw[hft]at hown;have hno:=Ay AO k cO (f.map (St.dN F)) wr (by simp;omega) (aW hown (by simp;omega)) (by omega) (by rw[Pc];exact HT.out);have iz:=aa hno;clear hlt hown hno hft;go_wp2_with fail;refine iz.out.mono ?_;rintro e w5 ⟨v,rfl,ho,bg⟩;have HE:=aa (And.intro (cH ho (by omega)) (HU.out.trans bg));clear ho bg;go_wp2;go_ret;exact⟨v,rfl,HE.out.1,HE.out.2⟩
theorem Hw(f:List St.It):(St.iX f).Nodup/\∀x∈f,St.aQ x.1=true->x.2.2∈St.iX f:=by
 have key:∀(f:List St.It) (l:List Int),l.Nodup->(f.foldl St.cS l).Nodup/\(∀i∈l,i∈f.foldl St.cS l)/\∀x∈f,St.aQ x.1=true->x.2.2∈f.foldl St.cS l:=by
  intro f
  induction f with
  | nil=>exact λl hl=>⟨hl,λi hi=>hi,λx hx=>by cases hx⟩
  | cons y f ih=>
   intro l hl;rw[List.foldl_cons]
   have h1:(St.cS l y).Nodup/\(∀i∈l,i∈St.cS l y)/\(St.aQ y.1=true->y.2.2∈St.cS l y):=by
    unfold St.cS
    split
    ·rename_i h
     refine⟨?_,λi hi=>by simp[hi],λ_=>by simp⟩;rw[List.nodup_append];refine⟨hl,by simp,λa ha b hb=>?_⟩;simp at hb;subst hb;intro e;subst e;exact h.2 ha
    rename_i h
    exact⟨hl,λi hi=>hi,λht=>Classical.byContradiction λhc=>h ⟨ht,hc⟩⟩
   obtain⟨g1,g2,g3⟩:=ih _ h1.1;refine⟨g1,λi hi=>g2 i (h1.2.1 i hi),λx hx ht=>?_⟩;rcases List.mem_cons.1 hx with rfl|hx
   ·exact g2 _ (h1.2.2 ht)
   exact g3 x hx ht
 obtain⟨h1,_,h3⟩:=key f [] List.nodup_nil;exact⟨h1,h3⟩
theorem Hm(A:Option Addr)(n c:Nat)(f:List St.It)(w:Ys)(hn:f.length=n)(h:aH w A f)(hl:n<=100000)(ht:aV f<=1000000000000) :
  Calls Tryz.prog 53 #[Yj A n c] w λe w'=>∃v,e=Yp v/\w'.ownsRow w.1.size 36 3 v (St.k7 f).length (ak (St.k7 f))/\ac w w':=by
 have H1:=aa (Mc A n c f w hn h hl);have H:=aa h;obtain⟨hnd,hall⟩:=Hw f;have ET:=aa hnd;have Lb:=aa hall;clear h hnd hall;go_enter Tryz.func53,Tryz.ntmps53;go_wp2_with fail;refine H1.out.mono ?_;rintro e w2 ⟨v2,rfl,hqn,fw,hu2⟩;obtain⟨A2,c2,rfl,_,_,_⟩:=aR fw;have aX:=aa hu2;have wE:=aa (R9 fw rfl);have Qg:=aa (λW=>Hj (St.iX f).length W (by omega));clear hu2 fw H1;go_wp2_with fail;refine(Qg.out _).mono ?_;rintro e w3 ⟨A3,c3,rfl,hI3,_,_,hu3⟩;have hr:=Mf A A2 A3 n c (St.iX f).length c2 c3 f (St.iX f) w3 hn rfl (H.out.ai (aX.out.trans hu3)) (wE.out.ai hu3) hI3 ET.out Lb.out hl (by omega) ht;have HR:=aa hr;have a7:=aa (aX.out.trans hu3);clear hr hI3 hu3;go_wp2_with fail;refine HR.out.mono ?_;rintro e w4 ⟨v,rfl,ho,bf⟩;have HE:=aa (And.intro (cH ho (by have:=a7.out.size;omega)) (a7.out.trans bf));clear ho bf;go_wp2;go_ret;exact⟨v,rfl,HE.out.1,HE.out.2⟩
end
