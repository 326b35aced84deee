/- The contract of item.Normalize: what it gives is St.normL. -/
import Derived.Lib.AppendStr
import Derived.Lib.AppendZerosOnto
import Derived.Test.YthoemdibbldndaaGreatDoorGI
import Derived.Laws.OwnMore
import Derived.Test.YthoemdibbldndaaGreatDoorRefSame
import Derived.MapKept
import Derived.Test.YthoemdibbldndaaGreatDoorGF
import Derived.BigQuiet
import Derived.Laws.MakeOwn
import Derived.Deep.RegionLaw
set_option linter.all false
set_option maxHeartbeats 0
set_option maxRecDepth 20000
open Go.Value renaming int->VD,string->VE,slice->VF,bool->VG,tuple->VI
open Go.IntKind renaming i64->VJ
open Go.Ending renaming returned->VL
open Go renaming World->VO
namespace Go.Proofs.YthoemdibbldndaaGreatDoor
open Go.RowKit
section
theorem II{f:List St.It}{t:List UInt8}(h:St.fz f)(s:List UInt8)(i:Int):St.aV (f++St.b8 t) (1,s,i)=f++St.b8 (t++s):=by
 by_cases hs:s=[]
 ·subst hs;rw[List.append_nil];unfold St.aV;rw[if_pos rfl,if_pos rfl]
 unfold St.b8
 by_cases ht:t=[]
 ·subst ht;simp only[if_true,List.append_nil,List.nil_append];rw[if_neg hs];rcases St.dD f with rfl|⟨a,b,rfl⟩
  ·rw[St.gv];simp[hs]
  rw[St.dJ];have:=h b (by simp)
  simp[this,hs]
 rw[if_neg ht,if_neg (by simp[ht]),St.dJ];simp[hs]
theorem Dk(f:List St.It)(k:Nat)(h:k<f.length):St.bu (f.take (k+1))=St.aV (St.bu (f.take k)) f[k]:=by
 rw[List.take_add_one,List.getElem?_eq_getElem h];exact St.ew _ _
theorem Ip(f:List St.It)(k:Nat)(h:k<f.length):aP (f.take (k+1))=aP (f.take k)+f[k].2.1.length:=by
 rw[List.take_add_one,List.getElem?_eq_getElem h];exact ci _ _
theorem sU(f:List St.It)(k:Nat):aP (f.take k)<=aP f:=by
 have e:aP f=aP (f.take k)+aP (f.drop k):=by
  conv=>lhs;rw[<-List.take_append_drop k f]
  unfold aP;rw[List.map_append,List.sum_append]
 omega
theorem Ga{w:VO}{B n c:Nat}{A:Option Addr}{l:List UInt8}(h:w.ownsRow B 5 1 (VF A n c) n (Lib.byteCells l))(h0:0<n) :
  (convert 22 9 (VF A n c)).run Tryz.prog w=.ok (VE ⟨l.toArray⟩) w:=by
 have hl:l.length=n:=by have:=h.1;rw[Lib.byteCells_length]at this;simpa using this
 obtain⟨g,rfl,_,_,hc⟩:=dY h h0
 rw[run_convert_bytes_arg w 22 5 Tryz.underlying22 Tryz.underlying5 g 0 n c (l.map λx=>(x.toNat:Int)) (by simpa using hl) (λi hi=>by
  rw[Nat.zero_add];refine hc i _ ?_;have hil:i<l.length:=by omega
  simp[Lib.byteCells,List.getD_eq_getElem?_getD,hil]) _ Tryz.underlying9]
 simp[strOfNums,Function.comp_def]
theorem xl(s:List UInt8):Lib.strCells ⟨s.toArray⟩=Lib.byteCells s:=by
 simp[Lib.strCells,Lib.byteCells]
theorem yS(a b:List UInt8):Lib.byteCells a++Lib.byteCells b=Lib.byteCells (a++b):=by simp[Lib.byteCells]
def vf(w:VO)(f:List St.It)(n:Nat)(s3 s4:Value)(wr:VO):Prop:=
 ∃(k:Nat) (O:List St.It),k<=n/\s4=VD VJ k/\O=St.bu (f.take k)/\(∀x,f[k]?=some x->x.1=1->St.fz O)/\O.length<=k/\wr.ownsRow w.1.size 36 3 s3 O.length (av O)/\ac w wr
def FZ(w:VO)(f O:List St.It)(n k:Nat)(v:Value)(s4 s5:Value)(wr:VO):Prop:=
 ∃(j:Nat) (t:List UInt8),k<=j/\j<=n/\s4=VD VJ j/\St.bu (f.take j)=O++St.b8 t/\t.length<=aP (f.take j)/\wr.ownsRow w.1.size 5 1 s5 t.length (Lib.byteCells t)/\wr.ownsRow w.1.size 36 3 v O.length (av O)/\ac w wr
theorem yn(A:Option Addr)(n c:Nat)(f:List St.It)(w:VO)(hn:f.length=n)(h:aE w A f)(hl:n<=1000000)(ht:aP f<=1000000000000) :
  Calls Tryz.prog 130 #[VF A n c] w λe w'=>∃v,e=VL v/\w'.ownsRow w.1.size 36 3 v (St.bu f).length (av (St.bu f))/\ac w w':=by
 have H:=aa h;have HN:=aa hn;have HT:=aa ht;obtain⟨i0,hi,hz0,hz1,hz2⟩:=info_parts dA;obtain⟨ib,kb,kz0,kz1,kz2⟩:=info_parts oW;clear h hn ht;go_enter Tryz.func130,Tryz.ntmps130;go_wp2;go_loopw [3,4] (λs3 s4 wr=>vf w f n s3 s4 wr) (λ_ s4 _=>n+1-(intOf s4).toNat)
 case atStart=>exact⟨0,[],by omega,rfl,rfl,λ_ _ _=>St.o5,by simp,World.ownsRow_nil _ _ _ _,ac.refl _⟩
 case round=>
  obtain⟨k,O,hk,rfl,hO,hNT,Gw,hown,hu⟩:=hrel;have HU:=aa hu;have hsz:=hu.size;have HOW:=aa hown;have kX:=aa hNT;have Kz:=aa hO;have hN:=HN.out;obtain⟨AO,cO,rfl,_⟩:=aC hown;clear hu hNT hO
  by_cases hlt:k<n
  ·clear hown;have aG:k<f.length:=by omega
   obtain⟨b,off,hAe,hb,hc⟩:=(H.out.ah HU.out) (by omega);obtain⟨c0,c1,c2⟩:=hc k aG;have hnt:=Dk f k aG;have hgx:f[k]?=some f[k]:=List.getElem?_eq_getElem aG;generalize f[k]=x at c0 c1 c2 hnt hgx;obtain⟨kd,tx,id⟩:=x;simp only at c0 c1 c2;haveI:af b wr:=af.of hb;have Rz:=aa hnt;have Qb:=aa hgx;clear hc hnt hgx
   by_cases k1:kd=1
   ·subst k1;have MT:=aa (kX.out _ Qb.out rfl);subst hAe;go_wp2_with fail;go_loopw [4,5] (λs4 s5 wr=>FZ w f O n k (VF AO O.length cO) s4 s5 wr) (λs4 _ _=>n+1-(intOf s4).toNat)
    case atStart=>exact⟨k,[],Nat.le_refl _,hk,rfl,by unfold St.b8;simp[Kz.out],by simp,World.ownsRow_nil _ _ _ _,HOW.out,HU.out⟩
    case round=>
     clear c0 c1 c2;obtain⟨j,t,hkj,hjn,rfl,hno,htl,hob,hown,hu⟩:=hrel;have aW:=aa hu;have Ky:=aa hob;have ww:=aa hown;have iu:=aa hno;have hT:=HT.out;have htk:=sU f j;have kc:=hu.size;obtain⟨AB,cB,rfl,_⟩:=aC hob;clear hu hob hown hno
     by_cases vF:j<n/\(f[j]?.map (·.1))=some 1
     ·obtain⟨hjl,pR⟩:=vF;have ik:j<f.length:=by omega
      obtain⟨b2,off2,hAe2,hb2,hc2⟩:=(H.out.ah aW.out) (by omega);obtain⟨rfl,rfl⟩:b=b2/\off=off2:=by simp at hAe2;exact hAe2
      obtain⟨e0,e1,e2⟩:=hc2 j ik;have hnt:=Dk f j ik;have oj:=Ip f j ik;rw[List.getElem?_eq_getElem ik]at pR;generalize f[j]=y at e0 e1 e2 hnt pR oj;obtain⟨yk,yt,yi⟩:=y;simp only[Option.map_some,Option.some.injEq]at pR;subst pR;simp only at e0 e1 e2 oj;rw[iu.out,II MT.out]at hnt;haveI:af b wr:=af.of hb2;have TO:(⟨yt.toArray⟩:ByteArray).size=yt.length:=by show yt.toArray.size=_;simp
      have UJ:=sU f (j+1);have RA:=aa hnt;clear hc2 hnt ik;go_wp2_with (at_builtin;refine Lib.wpList_append_own_string _ rfl _ _ 22 9 rfl w.1.size 5 ib Tryz.underlying22 Tryz.underlying9 kb kz0 kz1 kz2 _ _ _ rfl Ky.out ⟨yt.toArray⟩ rfl ?_ ?_ ?_ ?_)
      ·unfold maxLen;omega
      ·show t.length+(⟨yt.toArray⟩:ByteArray).size<=_;rw[TO];omega
      intro v' w4 hown' hgrow _;rw[xl,yS]at hown';have iD:=ww.out.kept hgrow (cR ww.out Ky.out (by decide));have aU:=aW.out.grown hgrow (λg hg=>ax Ky.out g hg);have HE:=aa (show FZ w f O n k (VF AO O.length cO) (VD VJ ((j:Int)+1)) v' w4 from⟨j+1,t++yt,by omega,by omega,congrArg (VD VJ) (by omega),RA.out,by rw[List.length_append,oj];omega,by rw[List.length_append];exact hown',iD,aU⟩);clear hown' hgrow iD aU;go_wp2;exact⟨HE.out,by simp[intOf];omega⟩
     have UE:k<j:=by
      rcases Nat.lt_or_ge k j with h|h
      ·exact h
      exfalso;have:j=k:=by omega
      subst this;exact vF ⟨hlt,by rw[Qb.out];rfl⟩
     have hnx:∀x,f[j]?=some x->x.1=1->∀O':List St.It,St.fz O':=by
      intro x hx h1 O';exfalso;refine vF ⟨?_,by rw[hx];simp[h1]⟩;rcases Nat.lt_or_ge j n with h|h
      ·exact h
      rw[List.getElem?_eq_none (by omega)]at hx;cases hx
     have MU:=aa hnx;clear hnx
     by_cases ht0:t=[]
     ·subst ht0;have hfin:=aa (show vf w f n (VF AO O.length cO) (VD VJ j) wr from⟨j,O,hjn,rfl,by rw[iu.out];simp[St.b8],λx hx h1=>MU.out x hx h1 O,by omega,ww.out,aW.out⟩)
      by_cases hjl:j<n
      ·have ik:j<f.length:=by omega
       obtain⟨b2,off2,hAe2,hb2,hc2⟩:=(H.out.ah aW.out) (by omega);obtain⟨rfl,rfl⟩:b=b2/\off=off2:=by simp at hAe2;exact hAe2
       have e0:=(hc2 j ik).1;have hy1:¬f[j].1=1:=λe=>vF ⟨hjl,by rw[List.getElem?_eq_getElem ik];simp[e]⟩
       generalize f[j].1=yk at e0 hy1;have q1:(yk==1)=false:=by simpa using hy1
       haveI:af b wr:=af.of hb2;clear hc2 vF hy1;go_wp2;exact⟨hfin.out,by simp[intOf];omega⟩
      clear vF;go_wp2;exact⟨hfin.out,by simp[intOf];omega⟩
     have ss:0<t.length:=List.length_pos_iff.2 ht0;have zt:(0:Int)<(t.length:Int):=by omega
     have hcv:∀W,ac wr W->(convert 22 9 (VF AB t.length cB)).run Tryz.prog W=.ok (VE ⟨t.toArray⟩) W:=λW hW=>Ga (aA hW Ky.out) ss
     have UB:=hcv _ (ac.refl _)
     have hfin:∀v' w4,w4.ownsRow w.1.size 36 3 v' (O.length+1) (av O++[VD VJ 1,VE ⟨t.toArray⟩,VD VJ 0])->ac w w4->vf w f n v' (VD VJ j) w4:=λv' w4 h1 h2=>
      ⟨j,O++[(1,t,0)],hjn,rfl,by rw[iu.out];simp[St.b8,ht0],λx hx h1=>MU.out x hx h1 _,by simp;omega,by rw[bw,List.length_append,List.length_singleton];exact h1,h2⟩
     have dq:=aa hfin;have NQ:∀(W:VO),ac wr W->W.ownsRow w.1.size 36 3 (VF AO O.length cO) O.length (av O):=λW hW=>aA hW ww.out
     by_cases hjl:j<n
     ·have ik:j<f.length:=by omega
      obtain⟨b2,off2,hAe2,hb2,hc2⟩:=(H.out.ah aW.out) (by omega);obtain⟨rfl,rfl⟩:b=b2/\off=off2:=by simp at hAe2;exact hAe2
      have e0:=(hc2 j ik).1;have hy1:¬f[j].1=1:=λe=>vF ⟨hjl,by rw[List.getElem?_eq_getElem ik];simp[e]⟩
      generalize f[j].1=yk at e0 hy1;have q1:(yk==1)=false:=by simpa using hy1
      haveI:af b wr:=af.of hb2;clear hc2 vF hy1;go_wp2_with (at_builtin;refine wpList_append_own _ rfl _ _ 37 rfl w.1.size 36 i0 (.agg #[.int .i64 0,.string ⟨#[]⟩,.int .i64 0]) 3 32 Tryz.underlying37 hi hz0 hz1 hz2 rfl (by decide) (.slice AO O.length cO) O.length _ rfl (NQ _ uZ) _ 1 1 [.int .i64 1,.string ⟨t.toArray⟩,.int .i64 0] rfl rfl ?_ (cG _ _ _) (by unfold maxLen;omega) (by omega) ?_ ?_)
      all_goals try exact ee _ _ _ _ _ _ rfl
      all_goals try omega
      all_goals try (simp;omega;done)
      intro v' w4 hown' hgrow _;have HE:=aa (dq.out v' w4 hown' ((aW.out.trans uZ).grown hgrow (λg hg=>ax ww.out g hg)));clear hown' hgrow;go_wp2;exact⟨HE.out,by simp[intOf];omega⟩
     clear vF;go_wp2_with (at_builtin;refine wpList_append_own _ rfl _ _ 37 rfl w.1.size 36 i0 (.agg #[.int .i64 0,.string ⟨#[]⟩,.int .i64 0]) 3 32 Tryz.underlying37 hi hz0 hz1 hz2 rfl (by decide) (.slice AO O.length cO) O.length _ rfl (NQ _ uZ) _ 1 1 [.int .i64 1,.string ⟨t.toArray⟩,.int .i64 0] rfl rfl ?_ (cG _ _ _) (by unfold maxLen;omega) (by omega) ?_ ?_)
     all_goals try exact ee _ _ _ _ _ _ rfl
     all_goals try omega
     all_goals try (simp;omega;done)
     intro v' w4 hown' hgrow _;have HE:=aa (dq.out v' w4 hown' ((aW.out.trans uZ).grown hgrow (λg hg=>ax ww.out g hg)));clear hown' hgrow;go_wp2;exact⟨HE.out,by simp[intOf];omega⟩
   have q1:(kd==1)=false:=by simpa using k1
   have q2:(kd != 1)=true:=by simpa using k1
   have hadd:St.bu (f.take (k+1))=O++[(kd,tx,id)]:=by rw[Rz.out,<-Kz.out];unfold St.aV;rw[if_neg k1]
   have hfin:∀v' w4,w4.ownsRow w.1.size 36 3 v' (O.length+1) (av O++[VD VJ kd,VE ⟨tx.toArray⟩,VD VJ id])->ac w w4->vf w f n v' (VD VJ ((k:Int)+1)) w4:=λv' w4 h1 h2=>
    ⟨k+1,O++[(kd,tx,id)],by omega,congrArg (VD VJ) (by omega),hadd.symm,λ_ _ _=>St.lx _ _ _ _ k1,by simp;omega,by rw[bw,List.length_append,List.length_singleton];exact h1,h2⟩
   have dq:=aa hfin;subst hAe;clear k1 hadd hfin;go_wp2_with (at_builtin;refine wpList_append_own _ rfl _ _ 37 rfl w.1.size 36 i0 (.agg #[.int .i64 0,.string ⟨#[]⟩,.int .i64 0]) 3 32 Tryz.underlying37 hi hz0 hz1 hz2 rfl (by decide) (.slice AO O.length cO) O.length _ rfl (HOW.out.alloc _) _ 1 1 [.int .i64 kd,.string ⟨tx.toArray⟩,.int .i64 id] rfl rfl ?_ (cG _ _ _) (by unfold maxLen;omega) (by omega) ?_ ?_)
   all_goals try exact ee _ _ _ _ _ _ rfl
   all_goals try omega
   all_goals try (simp;omega;done)
   intro v' w4 hown' hgrow _;have HE:=aa (dq.out v' w4 hown' ((HU.out.alloc _).grown hgrow (λg hg=>ax HOW.out g hg)));clear hown' hgrow;go_wp2;exact⟨HE.out,by simp[intOf];omega⟩
  have hkn:k=n:=by omega
  subst hkn;have hft:f.take k=f:=List.take_of_length_le (by omega);rw[hft]at Kz;have Tt:=Kz.out;subst Tt;clear hlt hft;go_wp2;go_ret;exact⟨_,rfl,HOW.out,HU.out⟩
end
section
set_option maxRecDepth 100000 in
theorem I3(n:Nat)(w:VO)(hn:n<=200000) :
  Calls Tryz.prog 174 #[VF none 0 0,VD VJ (n:Int)] w λe w'=>∃v,e=VL v/\w'.ownsRow w.1.size 36 3 v 0 []/\ac w w':=by
 obtain⟨i0,hi,hz0,hz1,hz2⟩:=info_parts dA
 by_cases h0:n=0
 ·subst h0;go_enter Tryz.func174,Tryz.ntmps174;go_wp2;go_ret;exact⟨_,rfl,World.ownsRow_nil _ _ _ _,ac.refl _⟩
 have z1:¬(n:Int)<0:=by omega
 have z2:(0:Int)<(n:Int):=by omega
 have hold:(Builtin.firstCells i0.size 0 (VF none 0 0)).run Tryz.prog w.drew=.ok ([]:List Value).toArray w.drew:=run_firstCells_none w.drew i0.size 0 0 0
 have pU:∀ty,(Builtin.append_ #[37,3] ty #[VF none 0 0,VD VJ (n:Int)]).run Tryz.prog w=.ok (VF (some ⟨w.1.size,0,none⟩) (0+n) (grownCap w (0+n) 0 36)) (w.drew.alloc (.cells (([]:List Value).toArray++Builtin.zeroCells (Value.agg #[VD VJ 0,VE ⟨#[]⟩,VD VJ 0]).cells n++Builtin.zeroCells (Value.agg #[VD VJ 0,VE ⟨#[]⟩,VD VJ 0]).cells (grownCap w (0+n) 0 36-(0+n))) 36)):=λty=>
  Lib.run_append_grow_zeros w 37 3 ty 36 i0 _ .i64 .i64 Tryz.underlying37 Tryz.underlying3 hi hz0 none 0 0 [] hold n (by omega) (by omega) (by omega) (by omega) (by rw[hz2];omega) (by rw[hz2,Nat.zero_add];exact growslice_fits (by omega) (by omega))
 have hge:=grownCap_ge w (0+n) 0 36;have hle:=grownCap_le_maxLen w (0+n) 0 36 (by unfold maxLen;omega);obtain⟨G,hG⟩:∃G,G=grownCap w (0+n) 0 36:=⟨_,rfl⟩;rw[<-hG]at pU hge hle;have Oe:G<=9223372036854775807:=by unfold maxLen at hle;omega
 have hown:∀cs:Array Value,cs.size=G*3->(w.alloc (.cells cs 36)).drew.ownsRow w.1.size 36 3 (VF (some ⟨w.1.size,0,none⟩) 0 G) 0 []:=λcs hcs=>
  ⟨rfl,.inr ⟨w.1.size,G,cs,rfl,Nat.le_refl _,heap_alloc_new w _,by omega,hle,hcs,by simp⟩⟩
 have HOWN:=aa hown;clear hold hG hown hle;go_enter Tryz.func174,Tryz.ntmps174;go_wp2_with (at_builtin;refine Lib.wpList_append_run _ rfl _ _ _ _ rfl _ _ rfl rfl _ _ (pU _) ?_)
 all_goals (go_ret;exact⟨_,rfl,HOWN.out _ (by simp only[Array.size_append,size_zeroCells,List.size_toArray,List.length_cons,List.length_nil];omega),uZ⟩)
def O9(w:VO)(n m:Nat)(s3 ga:Value)(wr:VO):Prop:=∃j:Nat,j<=2/\ga=VD VJ j/\s3=VD VJ (if j=0 then(0:Int)else if j=1 then(n:Int)else(n:Int)+m)/\w=wr
def DI(w:VO)(f g:List St.It)(s6 Hw:Value)(wr:VO):Prop:=∃j:Nat,j<=2/\Hw=VD VJ j/\wr.ownsRow w.1.size 36 3 s6 (if j=0 then 0 else if j=1 then f.length else f.length+g.length) (av (if j=0 then[]else if j=1 then f else f++g))/\ac w wr
theorem JZ(A B:Option Addr)(n c m d:Nat)(f g:List St.It)(ab:Nat)(w:VO)(hn:f.length=n)(hm:g.length=m)(hA:A=none->n=0/\c=0)(hB:B=none->m=0/\d=0)(h:aE w A f)(h':aE w B g)
  (hab:ab<w.1.size) (g0:w.cell? ⟨ab,0,none⟩=some (VF A n c)) (g1:w.cell? ⟨ab,1,none⟩=some (VF B m d)) (hl:n+m<=100000) :
  Calls Tryz.prog 131 #[VF (some ⟨ab,0,none⟩) 2 2] w λe w'=>∃v,e=VL v/\w'.ownsRow w.1.size 36 3 v (f++g).length (av (f++g))/\ac w w':=by
 have H:=aa h;have H':=aa h';have HG:=aa (I3 (n+m) w (by omega));have HA:=aa hA;have HB:=aa hB;have hc:((n+m:Nat):Int)=(n:Int)+m:=by omega
 rw[hc]at HG;haveI:af ab w:=af.of hab;clear h h' hA hB hc;subst hn hm;go_enter Tryz.func131,Tryz.ntmps131;go_wp2_with fail;go_loopw [3,11] (λs3 ga wr=>O9 w f.length g.length s3 ga wr) (λ_ ga _=>3-(intOf ga).toNat)
 case atStart=>exact⟨0,by omega,rfl,rfl,rfl⟩
 case round=>
  obtain⟨j,hj,rfl,hs3,rfl⟩:=hrel;rcases(show j=0\/j=1\/j=2 by omega)with rfl|rfl|rfl
  ·obtain rfl:=hs3;have y1:¬((0:Int)+(f.length:Int)<0):=by omega
   have y2:¬((f.length:Int)<0):=by omega
   go_wp2;exact⟨⟨1,by omega,rfl,by first|rfl|(simp;done),rfl⟩,by simp[intOf]⟩
  ·obtain rfl:=hs3;simp only[if_neg (show ¬(1:Nat)=0 by omega),if_true];have y1:¬((f.length:Int)+(g.length:Int)<0):=by omega
   go_wp2;exact⟨⟨2,by omega,rfl,by first|rfl|(simp;done),rfl⟩,by simp[intOf]⟩
  obtain rfl:=hs3;simp only[if_neg (show ¬(2:Nat)=0 by omega),if_neg (show ¬(2:Nat)=1 by omega)];go_wp2_with fail;refine HG.out.mono ?_;rintro e w2 ⟨v,rfl,ho,hu⟩;have HO:=aa ho;have HU:=aa hu;obtain⟨AO,cO,rfl,_⟩:=aC ho;clear ho hu HG;go_wp2_with fail;go_loopw [6,27] (λs6 Hw wr=>DI w f g s6 Hw wr) (λ_ Hw _=>3-(intOf Hw).toNat)
  case atStart=>exact⟨0,by omega,rfl,HO.out,HU.out⟩
  case round=>
   clear HO HU;obtain⟨j,hj,rfl,ho,hu⟩:=hrel;have HU:=aa hu;have hsz:=hu.size;have e0:=(hu.cell (p:=⟨ab,0,none⟩) hab).trans g0;have e1:=(hu.cell (p:=⟨ab,1,none⟩) hab).trans g1;haveI:af ab wr:=af.of (Nat.lt_of_lt_of_le hab hsz);clear hu;rcases(show j=0\/j=1\/j=2 by omega)with rfl|rfl|rfl
   ·have HO:=aa ho;obtain⟨A1,c1,rfl,_⟩:=aC ho;clear ho;go_wp2_with (at_builtin;refine gG rfl _ _ rfl w.1.size _ 0 [] rfl HO.out A f.length c f rfl HA.out (H.out.ah HU.out) rfl (by omega) hsz ?_);intro v' w4 iD hg4;have HE:=aa (show DI w f g v' (VD VJ 1) w4 from⟨1,by omega,rfl,by simpa using iD,HU.out.grown hg4 (λx hx=>ax HO.out x hx)⟩);clear iD hg4;go_wp2;exact⟨HE.out,by simp[intOf]⟩
   ·have ej:wr.ownsRow w.1.size 36 3 _ f.length (av f):=ho;have HO:=aa ej;obtain⟨A1,c1,rfl,_⟩:=aC ej;clear ho ej;go_wp2_with (at_builtin;refine gG rfl _ _ rfl w.1.size _ f.length f rfl HO.out B g.length d g rfl HB.out (H'.out.ah HU.out) rfl (by omega) hsz ?_);intro v' w4 iD hg4;have HE:=aa (show DI w f g v' (VD VJ 2) w4 from⟨2,by omega,rfl,iD,HU.out.grown hg4 (λx hx=>ax HO.out x hx)⟩);clear iD hg4;go_wp2;exact⟨HE.out,by simp[intOf]⟩
   have ej:wr.ownsRow w.1.size 36 3 _ (f.length+g.length) (av (f++g)):=ho;have HO:=aa ej;obtain⟨A1,c1,rfl,_⟩:=aC ej;clear ho ej;go_wp2;go_ret;exact⟨_,rfl,by rw[List.length_append];exact HO.out,HU.out⟩
set_option maxRecDepth 100000 in
theorem uz(A B:Option Addr)(n c m d:Nat)(f g:List St.It)(w:VO)(hn:f.length=n)(hm:g.length=m)(hA:A=none->n=0/\c=0)(hB:B=none->m=0/\d=0)(h:aE w A f)(h':aE w B g)(hl:n+m<=100000)(ht:aP (f++g)<=1000000000000) :
  Calls Tryz.prog 98 #[VF A n c,VF B m d] w λe w'=>∃v,e=VL v/\w'.ownsRow w.1.size 36 3 v (St.bu (f++g)).length (av (St.bu (f++g)))/\ac w w':=by
 have hsc:=λ(W:VO) (ab:Nat) (hW:ac w W) (hab:ab<W.1.size) (g0:W.cell? ⟨ab,0,none⟩=some (VF A n c)) (g1:W.cell? ⟨ab,1,none⟩=some (VF B m d))=>JZ A B n c m d f g ab W hn hm hA hB (h.ah hW) (h'.ah hW) hab g0 g1 hl
 have hlen:(f++g).length<=1000000:=by rw[List.length_append];omega
 have hno:=λ(A:Option Addr) (c:Nat) (W:VO) (h:aE W A (f++g))=>yn A (f++g).length c (f++g) W rfl h hlen ht
 generalize f++g=F at hsc hno |-;have Tb:=aa hsc;have HN:=aa hno;clear h h' hsc hno hA hB hlen ht hl;go_enter Tryz.func98,Tryz.ntmps98;go_wp2_with fail;refine(Tb.out _ _ uZ (by simp) (by simp) (by simp)).mono ?_;rintro e w2 ⟨v,rfl,ho,hu⟩;obtain⟨AO,cO,rfl,_⟩:=aC ho;have hno:=HN.out AO cO w2 (aM ho rfl);have iu:=aa hno;have HU:=aa (show ac w w2 from ac.trans (uZ) hu);clear hno ho hu;go_wp2_with fail;refine iu.out.mono ?_;rintro e w3 ⟨v3,rfl,bB,hu3⟩;have HE:=aa (And.intro (cC bB HU.out.size) (HU.out.trans hu3));clear bB hu3;go_wp2;go_ret;exact⟨_,rfl,HE.out.1,HE.out.2⟩
end
section
theorem L5(a b:Nat)(f:List St.It)(k:Nat)(h:k<f.length):St.bi a b 0 (f.take (k+1))=St.bi a b 0 (f.take k)++St.bi a b (St.aR (f.take k)) [f[k]]:=by
 rw[List.take_add_one,List.getElem?_eq_getElem h];have:=St.tV a b (f.take k) f[k] 0
 rw[Nat.zero_add]at this;exact this
theorem qb(a b:Nat)(f:List St.It):∀at',(St.bi a b at' f).length<=f.length:=by
 induction f with
 | nil=>intro at';simp[St.bi]
 | cons x f ih=>
  intro at';rw[St.bi,List.length_append];have:=ih (at'+St.bG x)
  have h1:(if x.1=1 then(if max a at' - at'<min b (at'+x.2.1.length)-at' then[((1:Int),(x.2.1.take (min b (at'+x.2.1.length)-at')).drop (max a at' - at'),x.2.2)]else[])else(if a<=at'/\at'<b then[x]else[])).length<=1:=by
   repeat' split
   all_goals simp
  simp only[List.length_cons];omega
theorem LN(f:List St.It)(k:Nat)(h:k<f.length):St.aR (f.take (k+1))=St.aR (f.take k)+St.bG f[k]:=by
 rw[List.take_add_one,List.getElem?_eq_getElem h];exact St.gr _ _
theorem ER(f:List St.It)(k:Nat):St.aR (f.take k)<=St.aR f:=by
 have e:St.aR f=St.aR (f.take k)+St.aR (f.drop k):=by
  conv=>lhs;rw[<-List.take_append_drop k f]
  unfold St.aR;rw[List.map_append,List.sum_append]
 omega
theorem OP(a b m:Nat)(kd id:Int)(tx:List UInt8){lo hi:Nat}(h1:lo=max a m)(h2:hi=min b (m+St.bG (kd,tx,id))) :
  St.bi a b m [(kd,tx,id)]=if lo<hi then(if kd=1 then[(1,(tx.take (hi-m)).drop (lo-m),id)]else[(kd,tx,id)])else[]:=by
 unfold St.bi St.bi St.bG at *;simp only[List.append_nil]at *
 by_cases hk:kd=1
 ·rw[if_pos hk]at h2;simp only[if_pos hk,<-h1,<-h2]
  by_cases hl:lo<hi
  ·rw[if_pos (by omega),if_pos hl]
  rw[if_neg (by omega),if_neg hl]
 rw[if_neg hk]at h2;simp only[if_neg hk]
 by_cases hl:lo<hi
 ·rw[if_pos (by omega),if_pos hl]
 rw[if_neg (by omega),if_neg hl]
def zf(w:VO)(a b:Nat)(f:List St.It)(n:Nat)(s8 s9 Hy:Value)(wr:VO):Prop:=
 ∃k:Nat,k<=n/\Hy=VD VJ k/\s9=VD VJ (St.aR (f.take k):Nat)/\wr.ownsRow w.1.size 36 3 s8 (St.bi a b 0 (f.take k)).length (av (St.bi a b 0 (f.take k)))/\ac w wr
theorem EJ(A:Option Addr)(n c:Nat)(f:List St.It)(a b:Nat)(w:VO)(hn:f.length=n)(h:aE w A f)(hl:n<=100000)(ht:aP f<=1000000000000)(hab:a<=b)(hbl:b<=St.aR f) :
  Calls Tryz.prog 97 #[VF A n c,VD VJ a,VD VJ b] w λe w'=>∃v,e=VL (VI #[v,VG true])/\w'.ownsRow w.1.size 36 3 v (St.bi a b 0 f).length (av (St.bi a b 0 f))/\ac w w':=by
 have H:=aa h;have HN:=aa hn;have hle:=aa (kk A n c f w hn h (by omega) (by omega));have CI:=aa (show St.aR f<=2000000000000 by have:=fW f;omega);obtain⟨i0,hi,hz0,hz1,hz2⟩:=info_parts dA;have y1:¬(a:Int)<0:=by omega
 have y2:¬(b:Int)<(a:Int):=by omega
 have y3:¬((St.aR f:Nat):Int)<(b:Int):=by omega
 have y4:¬St.aR f<b:=by omega
 clear h hn;go_enter Tryz.func97,Tryz.ntmps97;go_wp2_with fail;refine hle.out.mono ?_;rintro e w1 ⟨rfl,hu1⟩;have iw:=aa hu1;clear hu1 hle;go_wp2_with fail;go_loopw [8,9,30] (λs8 s9 Hy wr=>zf w a b f n s8 s9 Hy wr) (λ_ _ Hy _=>n+1-(intOf Hy).toNat)
 case atStart=>exact⟨0,by omega,rfl,rfl,World.ownsRow_nil _ _ _ _,iw.out⟩
 case round=>
  obtain⟨k,hk,rfl,rfl,hown,hu⟩:=hrel;have HU:=aa hu;have HO:=aa hown;have hsz:=hu.size;clear hu y1 y2 y3 y4;have hN:=HN.out
  by_cases hlt:k<n
  ·clear hown;have aG:k<f.length:=by omega
   obtain⟨g,off,rfl,hg,hc⟩:=(H.out.ah HU.out) (by omega);obtain⟨c0,c1,c2⟩:=hc k aG;have hst:=L5 a b f k aG;have hlk:=LN f k aG;have dW:=ER f (k+1);have hsl:=qb a b (f.take k) 0;have Ts:=CI.out;have hx1:=Ip f k aG;have hx2:=sU f (k+1);generalize f[k]=x at c0 c1 c2 hst hlk hx1;obtain⟨kd,tx,id⟩:=x;simp only at c0 c1 c2 hx1;generalize hO:St.bi a b 0 (f.take k)=O at HO hst hsl;obtain⟨A8,c8,rfl,_,_,hA8⟩:=aJ HO.out;have Gw:O.length<=100000:=by simp at hsl;omega
   have htl:(⟨tx.toArray⟩:ByteArray).size=tx.length:=by show tx.toArray.size=_;simp
   obtain⟨m,hm⟩:∃m,m=St.aR (f.take k):=⟨_,rfl⟩;rw[<-hm]at hlk hst |-;obtain⟨lo,hlo⟩:∃lo,lo=max a m:=⟨_,rfl⟩;obtain⟨hi',hhi⟩:∃hi',hi'=min b (m+St.bG (kd,tx,id)):=⟨_,rfl⟩;rw[OP a b m kd id tx hlo hhi]at hst;have hwd:=aa (λW=>vM kd tx id W);have hwt:kd=1->St.bG (kd,tx,id)=tx.length:=λe=>by unfold St.bG;rw[if_pos e]
   have hw1:St.bG (kd,tx,id)<=tx.length+1:=by unfold St.bG;split<;>simp<;>omega
   generalize St.bG (kd,tx,id)=wd at hwd hlk hhi hwt hw1;obtain⟨N,hNN⟩:∃N,N=m+wd:=⟨_,rfl⟩;have eN:(m:Int)+(wd:Int)=(N:Int):=by omega
   have Of:St.aR (f.take (k+1))=N:=by omega
   have k7:Hid (∀W v,W.ownsRow w.1.size 36 3 v (St.bi a b 0 (f.take (k+1))).length (av (St.bi a b 0 (f.take (k+1))))->ac w W->zf w a b f n v (VD VJ (N:Int)) (VD VJ ((k:Int)+1)) W):=
    aa λW v h1 h2=>⟨k+1,by omega,congrArg (VD VJ) (by omega),by rw[Of],h1,h2⟩
   haveI:af g wr:=af.of hg;rw[<-hNN]at hhi;have hNb:N<=2000000000000:=by omega
   have HST:=aa hst;have Tl:=aa hwt;have UU:max (a:Int) (m:Int)=(lo:Int):=by omega
   have UT:min (b:Int) (N:Int)=(hi':Int):=by omega
   clear hc aG hst Of hlk hwt hm hNN;go_wp2_with fail;refine(hwd.out _).mono ?_;rintro e w3 ⟨rfl,hu3⟩;have bO:ac wr w3:=ac.trans (uZ) hu3;have hb3:=(hu3.below.block wr.1.size (by simp)).trans (heap_alloc_new wr (.cells #[VD VJ kd,VE ⟨tx.toArray⟩,VD VJ id] 36));have d0:w3.cell? ⟨wr.1.size,0,none⟩=some (VD VJ kd):=ai hb3 0;have d1:w3.cell? ⟨wr.1.size,1,none⟩=some (VE ⟨tx.toArray⟩):=ai hb3 1;have d2:w3.cell? ⟨wr.1.size,2,none⟩=some (VD VJ id):=ai hb3 2;have f1:w3.frozen? ⟨wr.1.size,1,none⟩=false:=bg hb3 1;haveI:af wr.1.size w3:=af.of (ae hb3);have ba:=aa (HU.out.trans bO);have eS:=aa (aA bO HO.out);have nD:=aa hb3;have Ou:=ba.out.size;clear hu3 bO hb3 c0 c1 c2 hwd;generalize cV:wr.1.size=bx at *;have Sw:w.1.size<=bx:=by omega
   have kA:∀v,ac w (w3.setCell ⟨bx,1,none⟩ v):=λv=>ac.mk (ba.out.below.setCell Sw v)
   have qB:∀v,(w3.setCell ⟨bx,1,none⟩ v).ownsRow w.1.size 36 3 (VF A8 O.length c8) O.length (av O):=λv=>aF eS.out (λe=>by have:=(HO.out.lt _ e).2;omega)
   by_cases hll:lo<hi'
   ·have HS:=HST.out;rw[if_pos hll]at HS;have zl:(lo:Int)<(hi':Int):=by omega
    by_cases cI:kd=1
    ·subst cI;rw[if_pos rfl]at HS;have TM:=Tl.out rfl;obtain⟨p,hp⟩:∃p,p=lo-m:=⟨_,rfl⟩;obtain⟨q,hq⟩:∃q,q=hi' - m:=⟨_,rfl⟩;rw[<-hp,<-hq]at HS;have e1:(lo:Int)-(m:Int)=(p:Int):=by omega
     have e2:(hi':Int)-(m:Int)=(q:Int):=by omega
     have z2:(0:Int)<=(p:Int):=by omega
     have z3:(p:Int)<=(q:Int):=by omega
     have z4:(q:Int)<=(tx.length:Int):=by omega
     obtain⟨sx,oh⟩:∃sx:ByteArray,(⟨tx.toArray⟩:ByteArray).extract p q=sx:=⟨_,rfl⟩;have hsl:(tx.take q).drop p=sx.1.1:=by rw[<-oh,Lib.extract_data,List.drop_take]
     rw[hsl]at HS;have cS:=aa HS;have UG:(⟨tx.toArray⟩:ByteArray).extract (max a m-m) (min b N-m)=sx:=by rw[<-hlo,<-hhi,<-hp,<-hq];exact oh
     have hfin:∀v' w4,w4.ownsRow w.1.size 36 3 v' (O.length+1) (av O++[VD VJ 1,VE sx,VD VJ id])->ac w w4->zf w a b f n v' (VD VJ (N:Int)) (VD VJ ((k:Int)+1)) w4:=λv' w4 h1 h2=>
      k7.out w4 v' (by rw[cS.out,bw,List.length_append,List.length_singleton,aX];exact h1) h2
     have dq:=aa hfin;have zN:=aa (And.intro kA qB);clear hfin HS hsl kA qB cS TM hp hq;go_wp2_with (at_builtin;refine wpList_append_own _ rfl _ _ 37 rfl w.1.size 36 i0 (.agg #[.int .i64 0,.string ⟨#[]⟩,.int .i64 0]) 3 32 Tryz.underlying37 hi hz0 hz1 hz2 rfl (by decide) (.slice A8 O.length c8) O.length _ rfl ((zN.out.2 _).alloc _) _ 1 1 [.int .i64 1,.string sx,.int .i64 id] rfl rfl ?_ (cG _ _ _) (by unfold maxLen;omega) (by omega) ?_ ?_)
     all_goals try exact ee _ _ _ _ _ _ (by first|rfl|(simp;done))
     all_goals try (simp;omega;done)
     intro v' w4 hown' hgrow _;have HE:=aa (dq.out v' w4 hown' (((zN.out.1 _).alloc _).grown hgrow (λg hg=>ax eS.out g hg)));clear hown' hgrow;go_wp2;exact⟨HE.out,by simp[intOf];omega⟩
    rw[if_neg cI]at HS;have q1:(kd==1)=false:=by simpa using cI
    have cS:=aa HS
    have hfin:∀v' w4,w4.ownsRow w.1.size 36 3 v' (O.length+1) (av O++[VD VJ kd,VE ⟨tx.toArray⟩,VD VJ id])->ac w w4->zf w a b f n v' (VD VJ (N:Int)) (VD VJ ((k:Int)+1)) w4:=λv' w4 h1 h2=>
     k7.out w4 v' (by rw[cS.out,bw,List.length_append,List.length_singleton];exact h1) h2
    have dq:=aa hfin;clear hfin HS kA qB cS cI;go_wp2_with (at_builtin;refine wpList_append_own _ rfl _ _ 37 rfl w.1.size 36 i0 (.agg #[.int .i64 0,.string ⟨#[]⟩,.int .i64 0]) 3 32 Tryz.underlying37 hi hz0 hz1 hz2 rfl (by decide) (.slice A8 O.length c8) O.length _ rfl (eS.out.alloc _) _ 1 1 [.int .i64 kd,.string ⟨tx.toArray⟩,.int .i64 id] rfl rfl ?_ (cG _ _ _) (by unfold maxLen;omega) (by omega) ?_ ?_)
    all_goals try exact ee _ _ _ _ _ _ (by first|rfl|(simp;done))
    all_goals try (simp;omega;done)
    intro v' w4 hown' hgrow _;have HE:=aa (dq.out v' w4 hown' ((ba.out.alloc _).grown hgrow (λg hg=>ax eS.out g hg)));clear hown' hgrow;go_wp2;exact⟨HE.out,by simp[intOf];omega⟩
   have HS:=HST.out;rw[if_neg hll,List.append_nil]at HS;have zl:¬(lo:Int)<(hi':Int):=by omega
   have dq:=aa (k7.out w3 (VF A8 O.length c8) (by rw[HS];exact eS.out) ba.out);clear HS kA qB hlo hhi;go_wp2;exact⟨dq.out,by simp[intOf];omega⟩
  have hkn:k=n:=by omega
  subst hkn;have hft:f.take k=f:=List.take_of_length_le (by omega);rw[hft]at hown;have jv:=aa hown;clear hlt hft hown HO;go_wp2;go_ret2;exact⟨_,rfl,jv.out,HU.out⟩
end
section
theorem BS(A B:Option Addr)(n m c d:Nat)(f g:List St.It)(w:VO)(hn:f.length=n)(hm:g.length=m)(hc:n<=c)(hd:m<=d)(cN:c<=9223372036854775807)(fe:d<=9223372036854775807)(hA:aE w A f)(hB:aE w B g) :
  Calls Tryz.prog 93 #[VF A n c,VF B m d] w λe w'=>e=VL (VG (decide (f=g)))/\ac w w':=by
 by_cases aZ:n=m
 ·subst aZ;have HA:=aa hA;have HB:=aa hB;have HN:=aa hn;have HM:=aa hm;clear hA hB hn hm;go_enter Tryz.func93,Tryz.ntmps93;go_wp2;go_loopw [13] (λi wr=>zh w f g n i wr) (λi _=>n+1-(intOf i).toNat)
  case atStart=>exact⟨0,by omega,rfl,rfl,ac.refl _⟩
  case round=>
   obtain⟨k,hk,rfl,hs,hu⟩:=hrel;have HU:=aa hu;have HS:=aa hs;clear hu hs
   by_cases hlt:k<n
   ·have hk1:k<f.length:=by rw[HN.out];exact hlt
    have hk2:k<g.length:=by rw[HM.out];exact hlt
    obtain⟨b,o,rfl,hb,hc1⟩:=(HA.out.ah HU.out) (by omega);obtain⟨b',o',rfl,hb',hc2⟩:=(HB.out.ah HU.out) (by omega);obtain⟨h1,h2,h3⟩:=hc1 k hk1;obtain⟨h1',h2',h3'⟩:=hc2 k hk2;have hst:=aa (λe=>pd HS.out hk1 hk2 e);have hne:f[k]≠g[k]->f≠g:=λh e=>h (by subst e;rfl)
    have gl:=aa hne;generalize f[k]=x at h1 h2 h3 hst gl;generalize g[k]=y at h1' h2' h3' hst gl;obtain⟨xk,xt,xi⟩:=x;obtain⟨yk,yt,yi⟩:=y;simp only at h1 h2 h3 h1' h2' h3';haveI:af b wr:=af.of hb;haveI:af b' wr:=af.of hb';clear hc1 hc2 hk1 hk2 hne;cases he:KS (xk,xt,xi) (yk,yt,yi)
    ·have hF:=aa (gl.out (of_decide_eq_false he));go_wp2_with fail;go_quiet (fail);go_wp2;go_ret;refine⟨ay (decide_eq_false hF.out).symm,uZ⟩
    have hF:=aa (hst.out (of_decide_eq_true he));go_wp2_with fail;go_quiet (fail);go_wp2;refine⟨⟨k+1,by omega,rfl,hF.out,HU.out.trans uZ⟩,by simp[intOf];omega⟩
   obtain rfl:k=n:=by omega
   have hF:=aa (q7 HS.out HN.out HM.out);clear hlt;go_wp2;go_ret;exact⟨ay (decide_eq_true hF.out).symm,HU.out⟩
 have hF:=aa (show ¬f=g from λe=>aZ (by rw[<-hn,<-hm,e]));have z:((n:Int)==(m:Int))=false:=by simp;omega
 clear hA hB hn hm;go_enter Tryz.func93,Tryz.ntmps93;go_wp2;go_ret;exact⟨ay (decide_eq_false hF.out).symm,ac.refl _⟩
theorem BU(A B:Option Addr)(n m c d:Nat)(f g:List St.Pt)(w:VO)(hn:f.length=n)(hm:g.length=m)(hc:n<=c)(hd:m<=d)(cN:c<=9223372036854775807)(fe:d<=9223372036854775807)(hA:aY w A f)(hB:aY w B g) :
  Calls Tryz.prog 62 #[VF A n c,VF B m d] w λe w'=>e=VL (VG (decide (f=g)))/\ac w w':=by
 by_cases aZ:n=m
 ·subst aZ;have HA:=aa hA;have HB:=aa hB;have HN:=aa hn;have HM:=aa hm;clear hA hB hn hm;go_enter Tryz.func62,Tryz.ntmps62;go_wp2;go_loopw [13] (λi wr=>zh w f g n i wr) (λi _=>n+1-(intOf i).toNat)
  case atStart=>exact⟨0,by omega,rfl,rfl,ac.refl _⟩
  case round=>
   obtain⟨k,hk,rfl,hs,hu⟩:=hrel;have HU:=aa hu;have HS:=aa hs;clear hu hs
   by_cases hlt:k<n
   ·have hk1:k<f.length:=by rw[HN.out];exact hlt
    have hk2:k<g.length:=by rw[HM.out];exact hlt
    obtain⟨b,o,rfl,hb,hc1⟩:=(HA.out.ah HU.out) (by omega);obtain⟨b',o',rfl,hb',hc2⟩:=(HB.out.ah HU.out) (by omega);obtain⟨h1,h2,h3⟩:=hc1 k hk1;obtain⟨h1',h2',h3'⟩:=hc2 k hk2;have hst:=aa (λe=>pd HS.out hk1 hk2 e);have hne:f[k]≠g[k]->f≠g:=λh e=>h (by subst e;rfl)
    have gl:=aa hne;generalize f[k]=x at h1 h2 h3 hst gl;generalize g[k]=y at h1' h2' h3' hst gl;obtain⟨xk,xt,xi⟩:=x;obtain⟨yk,yt,yi⟩:=y;simp only at h1 h2 h3 h1' h2' h3';haveI:af b wr:=af.of hb;haveI:af b' wr:=af.of hb';clear hc1 hc2 hk1 hk2 hne;cases he:KT (xk,xt,xi) (yk,yt,yi)
    ·have hF:=aa (gl.out (of_decide_eq_false he));go_wp2_with fail;go_quiet (fail);go_wp2;go_ret;refine⟨ay (decide_eq_false hF.out).symm,uZ⟩
    have hF:=aa (hst.out (of_decide_eq_true he));go_wp2_with fail;go_quiet (fail);go_wp2;refine⟨⟨k+1,by omega,rfl,hF.out,HU.out.trans uZ⟩,by simp[intOf];omega⟩
   obtain rfl:k=n:=by omega
   have hF:=aa (q7 HS.out HN.out HM.out);clear hlt;go_wp2;go_ret;exact⟨ay (decide_eq_true hF.out).symm,HU.out⟩
 have hF:=aa (show ¬f=g from λe=>aZ (by rw[<-hn,<-hm,e]));have z:((n:Int)==(m:Int))=false:=by simp;omega
 clear hA hB hn hm;go_enter Tryz.func62,Tryz.ntmps62;go_wp2;go_ret;exact⟨ay (decide_eq_false hF.out).symm,ac.refl _⟩
theorem G7(A B:Option Addr)(n m c d:Nat)(f g:List St.It)(w:VO)(hn:f.length=n)(hm:g.length=m)(hc:n<=c)(hd:m<=d)(cN:c<=9223372036854775807)(fe:d<=9223372036854775807)(h:aE w A f)(h':aE w B g) :
  Calls Tryz.prog 52 #[VF A n c,VF B m d] w λe w'=>e=VL (VG (decide (f=g)))/\ac w w':=by
 have HS:=aa (BS A B n m c d f g w hn hm hc hd cN fe h h');clear h h';go_enter Tryz.func52,Tryz.ntmps52;go_wp2_with fail;refine HS.out.mono ?_;rintro e w' ⟨rfl,hu⟩;have HU:=aa hu;clear hu;go_wp2;go_ret;exact⟨rfl,HU.out⟩
end
end Go.Proofs.YthoemdibbldndaaGreatDoor
namespace Go.Proofs.YthoemdibbldndaaGreatDoor.Mz
open Go.RowKit
def rn:Nat->List (Int × Value)->List MapEntry
 | _,[]=>[]
 | n,p :: l=>{ key:=VD VJ p.1,val:=p.2,born:=n } :: rn (n+1) l
theorem As(p:Int × Value):∀(l:List (Int × Value)) (n:Nat),rn n (l++[p])=rn n l++[{ key:=VD VJ p.1,val:=p.2,born:=n+l.length }]
 | [],n=>by simp[rn]
 | q :: l,n=>by
  simp only[List.cons_append,rn,As p l (n+1),List.length_cons];rw[show n+1+l.length=n+(l.length+1)by omega]
def look(k:Int):List (Int × Value)->Option Value
 | []=>none
 | p :: l=>if k=p.1 then some p.2 else look k l
theorem Hb(k:Int)(p:Int × Value)(l:List (Int × Value)):look k (l++[p])=match look k l with
  | some v=>some v
  | none=>if k=p.1 then some p.2 else none:=by
 induction l with
 | nil=>rfl
 | cons q l ih=>
  rw[List.cons_append,look,look]
  split
  ·rfl
  exact ih
theorem yq(k:Int)(l:List Int):look k (l.map λi=>(i,VG true))=if k∈l then some (VG true)else none:=by
 induction l with
 | nil=>rfl
 | cons i l ih=>
  rw[List.map_cons,look]
  by_cases h:k=i
  ·rw[if_pos h,if_pos (by simp[h])]
  rw[if_neg h,ih];simp[h]
theorem r7(k:Int):∀(l:List (Int × Value)) (n i:Nat),look k l=none->Instr.findNow (.int .i64) (.int .i64 k) (rn n l) i=some none
 | [],n,i,_=>rfl
 | p :: l,n,i,h=>by
  unfold look at h
  by_cases e:k=p.1
  ·rw[if_pos e]at h;simp at h
  rw[if_neg e]at h;have e':(k==p.1)=false:=by simpa using e
  simp only[rn,Instr.findNow,Instr.sameNow,if_true,e'];exact r7 k l _ _ h
theorem xS(k:Int)(v:Value):∀(l:List (Int × Value)) (n i:Nat),look k l=some v->∃j,Instr.findNow (.int .i64) (.int .i64 k) (rn n l) i=some (some (j,v))
 | [],n,i,h=>by simp[look]at h
 | p :: l,n,i,h=>by
  unfold look at h
  by_cases e:k=p.1
  ·rw[if_pos e]at h;obtain rfl:p.2=v:=by simpa using h
   have e':(k==p.1)=true:=by simpa using e
   exact⟨i,by simp only[rn,Instr.findNow,Instr.sameNow,if_true,e']⟩
  rw[if_neg e]at h;have e':(k==p.1)=false:=by simpa using e
  obtain⟨j,hj⟩:=xS k v l (n+1) (i+1) h;exact⟨j,by simp only[rn,Instr.findNow,Instr.sameNow,if_true,e'];exact hj⟩
def At(w:VO)(mb:Nat)(l:List (Int × Value)):Prop:=w.1[mb]?=some (.map (rn 0 l).toArray l.length)
def put(w:VO)(mb:Nat)(l:List (Int × Value)):VO:={ w with heap:=w.heap.setIfInBounds mb (.map (rn 0 l).toArray l.length) }
theorem At.lt{w:VO}{mb:Nat}{l:List (Int × Value)}(h:At w mb l):mb<w.1.size:=ae h
theorem At.ah{a c:VO}{mb:Nat}{l:List (Int × Value)}(h:At a mb l)(u:ac a c):At c mb l:=(u.below.block mb h.lt).trans h
theorem BB(w:VO){mb b:Nat}(l:List (Int × Value))(h:b≠mb):(put w mb l).1[b]?=w.1[b]?:=by
 show(w.heap.setIfInBounds mb _)[b]?=_
 rw[Array.getElem?_setIfInBounds_ne (Ne.symm h)]
theorem Hn{w:VO}{mb:Nat}{l0:List (Int × Value)}(h:At w mb l0)(l:List (Int × Value)):At (put w mb l) mb l:=by
 show(w.heap.setIfInBounds mb _)[mb]?=_
 have:=h.lt
 simp[this]
theorem JN(w:VO)(mb:Nat)(l:List (Int × Value)):(put w mb l).1.size=w.1.size:=by
 show(w.heap.setIfInBounds mb _).size=_;simp
theorem Dn{w W:VO}{mb:Nat}(l:List (Int × Value))(h:ac w W)(hb:w.1.size<=mb):ac w (put W mb l):=by
 have b:=h.below;exact ac.mk ⟨b.os,b.tape,b.output,by rw[JN];exact b.size,λk hk=>(BB W l (by omega)).trans (b.block k hk)⟩
theorem LU{W:VO}{mb B e size n:Nat}{v:Value}{xs:List Value}{l0:List (Int × Value)}(l:List (Int × Value))(h:W.ownsRow B e size v n xs)(ha:At W mb l0):(put W mb l).ownsRow B e size v n xs:=by
 refine⟨h.1,?_⟩;rcases h.2 with h0|⟨g,cap,cur,rfl,hb,hg,hr⟩
 ·exact .inl h0
 refine .inr ⟨g,cap,cur,rfl,hb,(BB W l λe=>?_).trans hg,hr⟩;subst e;rw[ha]at hg;cases hg
theorem uo{w w':VO}{mb B e size n:Nat}{v:Value}{xs:List Value}{l:List (Int × Value)}(h:At w mb l)(hg:w.grownBy w' v.ownBlock)(ho:w.ownsRow B e size v n xs):At w' mb l:=by
 refine(hg.block mb h.lt λe=>?_).trans h;rcases ho.2 with⟨rfl,_⟩|⟨g,cap,cur,rfl,_,hgb,_⟩
 ·simp[Value.ownBlock]at e
 simp only[Value.ownBlock,Option.some.injEq]at e;subst e;rw[h]at hgb;cases hgb
section
variable {T et:TypeId} (hm:Tryz.prog.underlying T=some (.map 3 et))
include hm
theorem Dx{w:VO}{mb:Nat}{l:List (Int × Value)}{k:Int}(v:Value)(ha:At w mb l)(h:look k l=none) :
  (Instr.mapUpdate T (.map (some mb)) (VD VJ k) v).run Tryz.prog w=.ok () (put w mb (l++[(k,v)])):=by
 have hd:Tryz.prog.underlying 3=some (.int .i64):=by kernel_rfl
 have hf:=r7 k l 0 0 h;have hk:MapKept.IsKey (.int .i64) (.int .i64 k):=by simp[MapKept.IsKey]
 simp[Instr.mapUpdate,run_underlying hm,MapKept.run_getObj_map ha,MapKept.run_checkKey hd hk,MapKept.run_findKey hd hf,MapKept.run_setObj_map _ ha,Result.andThen];simp[put,As]
theorem run_get{w:VO}{mb:Nat}{l:List (Int × Value)}{k:Int}{v:Value}(ok:Bool)(ha:At w mb l)(h:look k l=some v) :
  (Instr.lookup T (.map (some mb)) (VD VJ k) ok).run Tryz.prog w=.ok (if ok then VI #[v,VG true]else v) w:=by
 have hd:Tryz.prog.underlying 3=some (.int .i64):=by kernel_rfl
 obtain⟨j,hf⟩:=xS k v l 0 0 h;have hk:MapKept.IsKey (.int .i64) (.int .i64 k):=by simp[MapKept.IsKey]
 cases ok<;>simp[Instr.lookup,run_underlying hm,MapKept.run_getObj_map ha,MapKept.run_checkKey hd hk,MapKept.run_findKey hd hf,Result.andThen]
theorem Ht{w:VO}{mb:Nat}{l:List (Int × Value)}{k:Int}{z:Value}(ok:Bool)(hz:(zeroValue et).run Tryz.prog w=.ok z w)(ha:At w mb l)(h:look k l=none) :
  (Instr.lookup T (.map (some mb)) (VD VJ k) ok).run Tryz.prog w=.ok (if ok then VI #[z,VG false]else z) w:=by
 have hd:Tryz.prog.underlying 3=some (.int .i64):=by kernel_rfl
 have hf:=r7 k l 0 0 h;have hk:MapKept.IsKey (.int .i64) (.int .i64 k):=by simp[MapKept.IsKey]
 cases ok<;>simp[Instr.lookup,run_underlying hm,MapKept.run_getObj_map ha,MapKept.run_checkKey hd hk,MapKept.run_findKey hd hf,hz,Result.andThen]
end
end Go.Proofs.YthoemdibbldndaaGreatDoor.Mz
namespace Go.Proofs.YthoemdibbldndaaGreatDoor
open Go.RowKit
section
def zc(l:List Int):List Value:=l.map (VD VJ)
theorem Mi(l:List Int)(i:Int):zc (l++[i])=zc l++[VD VJ i]:=by simp[zc]
theorem O1{w:VO}{B n c:Nat}{A:Option Addr}{zs:List Int}(h:w.ownsRow B 3 1 (VF A n c) n (zc zs))(hn:zs.length=n):fh w A zs:=by
 intro h0;obtain⟨g,rfl,_,hg,hc⟩:=dY h (by omega);refine⟨g,0,rfl,hg,λi hi=>?_⟩;rw[Nat.zero_add];exact hc i _ (by unfold zc;rw[List.getElem?_map,List.getElem?_eq_getElem hi];simp[List.getD_eq_getElem?_getD,hi])
theorem Oz(f:List St.It)(k:Nat)(h:k<f.length):(f.take (k+1)).foldl St.dT []=St.dT ((f.take k).foldl St.dT []) f[k]:=by
 rw[List.take_add_one,List.getElem?_eq_getElem h,List.foldl_append];rfl
def KJ(w:VO)(f:List St.It)(n mb:Nat)(s3 cW:Value)(wr:VO):Prop:=
 ∃(k:Nat) (l:List Int),k<=n/\cW=VD VJ k/\l=(f.take k).foldl St.dT []/\l.length<=k/\wr.ownsRow w.1.size 3 1 s3 l.length (zc l)/\Mz.At wr mb (l.map λi=>(i,VG true))/\ac w wr
theorem Jw(A:Option Addr)(n c:Nat)(f:List St.It)(w:VO)(hn:f.length=n)(h:aE w A f)(hl:n<=100000) :
  Calls Tryz.prog 94 #[VF A n c] w λe w'=>∃v,e=VL v/\(St.jK f).length<=n/\w'.ownsRow w.1.size 3 1 v (St.jK f).length (zc (St.jK f))/\ac w w':=by
 have H:=aa h;have HN:=aa hn;obtain⟨ii,ki,kz0,kz1,kz2⟩:=info_parts fJ;have hm:Tryz.prog.underlying 183=some (.map 3 4):=by kernel_rfl
 have hmk:∀W:VO,(Instr.makeMap 183 none).run Tryz.prog W=.ok (.map (some W.1.size)) (W.alloc (.map #[] 0)):=λW=>rfl
 have CJ:=aa hm;have hzb:=aa (λW:VO=>(show(zeroValue 4).run Tryz.prog W=.ok (VG false) W by go_simp));clear h hn hm;go_enter Tryz.func94,Tryz.ntmps94;go_wp2_with fail;go_loopw [3,10] (λs3 cW wr=>KJ w f n w.1.size s3 cW wr) (λ_ cW _=>n+1-(intOf cW).toNat)
 case atStart=>exact⟨0,[],by omega,rfl,rfl,by simp,World.ownsRow_nil _ _ _ _,heap_alloc_new w _,(ac.refl w).alloc _⟩
 case round=>
  obtain⟨k,l,hk,rfl,hle,hll,hown,hat,hu⟩:=hrel;have HU:=aa hu;have hsz:=hu.size;have HOW:=aa hown;have FA:=aa hat;have va:=aa hle;have hN:=HN.out;obtain⟨AO,cO,rfl,_⟩:=aC hown;clear hu hle hown hat hmk
  by_cases hlt:k<n
  ·have aG:k<f.length:=by omega
   obtain⟨b,off,rfl,hb,hc⟩:=(H.out.ah HU.out) (by omega);obtain⟨c0,c1,c2⟩:=hc k aG;have hnt:=Oz f k aG;rw[<-va.out]at hnt;generalize f[k]=x at c0 c1 c2 hnt;obtain⟨kd,tx,id⟩:=x;simp only at c0 c1 c2;have hit:=λt W=>qD kd t id W
   have kX:=aa hnt;haveI:af b wr:=af.of hb;clear hc aG hnt;cases cw:St.bI kd
   ·rw[cw]at hit;have HIT:=aa hit;have he:=aa (show St.dT l (kd,tx,id)=l by unfold St.dT;rw[if_neg (by simp[cw])]);clear hit cw;go_wp2_with fail;refine(HIT.out _ _).mono ?_;rintro e w3 ⟨rfl,hu3⟩;have ba:=aa (ac.trans (uZ) hu3:ac wr w3);clear hu3 c0 c1 c2;go_wp2;exact⟨⟨k+1,l,by omega,congrArg (VD VJ) (by omega),by rw[kX.out,he.out],by omega,aA ba.out HOW.out,FA.out.ah ba.out,HU.out.trans ba.out⟩,by simp[intOf];omega⟩
   rw[cw]at hit;have HIT:=aa hit;clear hit;go_wp2_with fail;refine(HIT.out _ _).mono ?_;rintro e w3 ⟨rfl,hu3⟩;have bO:ac wr w3:=ac.trans (uZ) hu3;have d2:w3.cell? ⟨wr.1.size,2,none⟩=some (VD VJ id):=(hu3.cell (p:=⟨wr.1.size,2,none⟩) (by simp)).trans (by simp);haveI:af wr.1.size w3:=af.of (cd _ _ d2);have qy:=FA.out.ah bO;have Ro:=aa qy;have ba:=aa bO;have jw:=aa (aA bO HOW.out);have Si:=qy.lt;have UL:w.1.size<wr.1.size:=FA.out.lt;clear hu3 bO c0 c1 c2
   by_cases hmem:id∈l
   ·have hlk:=Mz.run_get CJ.out false qy (show Mz.look id _=some (VG true)by rw[Mz.yq,if_pos hmem]);simp only[Bool.false_eq_true,if_false]at hlk;have he:=aa (show St.dT l (kd,tx,id)=l by unfold St.dT;rw[if_neg (by rintro ⟨_,h⟩;exact h hmem)]);clear hmem cw qy;go_wp2;exact⟨⟨k+1,l,by omega,congrArg (VD VJ) (by omega),by rw[kX.out,he.out],by omega,jw.out,Ro.out,HU.out.trans ba.out⟩,by simp[intOf];omega⟩
   have oT:Mz.look id (l.map λi=>(i,VG true))=none:=by rw[Mz.yq,if_neg hmem]
   have hlk:=Mz.Ht CJ.out false (hzb.out w3) qy oT;simp only[Bool.false_eq_true,if_false]at hlk;have hpt:=Mz.Dx CJ.out (VG true) qy oT;have he:=aa (show St.dT l (kd,tx,id)=l++[id]by unfold St.dT;rw[if_pos ⟨cw,hmem⟩]);have fj:(l.map λi=>(i,VG true))++[(id,VG true)]=(l++[id]).map λi=>(i,VG true):=by simp
   rw[fj]at hpt;obtain⟨w4,hw4⟩:∃w4,w4=Mz.put w3 w.1.size ((l++[id]).map λi=>(i,VG true)):=⟨_,rfl⟩;have aU:ac w w4:=by rw[hw4];exact Mz.Dn _ (HU.out.trans ba.out) (Nat.le_refl _)
   have iD:w4.ownsRow w.1.size 3 1 (VF AO l.length cO) l.length (zc l):=by rw[hw4];exact Mz.LU _ jw.out qy
   have NS:Mz.At w4 w.1.size ((l++[id]).map λi=>(i,VG true)):=by rw[hw4];exact Mz.Hn qy _
   have m2:w4.cell? ⟨wr.1.size,2,none⟩=some (.int .i64 id):=(World.cell?_of_block (a:=⟨wr.1.size,2,none⟩) (show w4.1[wr.1.size]?=w3.1[wr.1.size]? by rw[hw4];exact Mz.BB w3 _ (by omega))).trans d2;rw[<-hw4]at hpt;haveI:af wr.1.size w4:=af.of (cd _ _ m2);have fD:=aa aU;have iv:=aa iD;have Rp:=aa NS;have hs4:=aU.size;clear hmem cw qy oT fj hw4 aU iD NS;go_wp2_with (at_builtin;refine wpList_append_own _ rfl _ _ 42 rfl w.1.size 3 ii (.int .i64 0) 1 8 Tryz.underlying42 ki kz0 kz1 kz2 rfl (by decide) (.slice AO l.length cO) l.length (zc l) rfl (iv.out.alloc _) _ 1 1 [.int .i64 id] rfl rfl ?_ (by simp;rfl) (by unfold maxLen;omega) (by omega) ?_ ?_)
   ·exact fF _ _ _
   ·simp;omega
   intro v' w5 dy eh _;rw[<-Mi]at dy;have NT:=Mz.uo (Rp.out.ah ((ac.refl w4).alloc (.cells #[VD VJ id] 3))) eh (iv.out.alloc _);have a8:ac w w5:=(fD.out.alloc _).grown eh (λg hg=>ax iv.out g hg);have HE:=aa (show KJ w f n w.1.size v' (VD VJ ((k:Int)+1)) w5 from⟨k+1,l++[id],by omega,congrArg (VD VJ) (by omega),by rw[kX.out,he.out],by simp;omega,by rw[List.length_append,List.length_singleton];exact dy,NT,a8⟩);clear dy eh a8 NT;go_wp2;exact⟨HE.out,by simp[intOf];omega⟩
  have hkn:k=n:=by omega
  subst hkn;have hft:f.take k=f:=List.take_of_length_le (by omega);have hl2:l=St.jK f:=by rw[va.out,hft];rfl
  subst hl2;clear hlt hft va;go_wp2;go_ret;exact⟨_,rfl,hll,HOW.out,HU.out⟩
end
section
theorem Hc(N:Nat)(hN:N<=1000000):∃cs:Array Value,(∀W:VO,(Instr.makeSlice 42 (VD VJ (N:Int)) (VD VJ (N:Int))).run Tryz.prog W=.ok (VF (some ⟨W.1.size,0,none⟩) N N) (W.alloc (.cells cs 3)))/\cs.size=N:=by
 obtain⟨i,hi,hz0,hz1,hz2⟩:=info_parts fJ;refine⟨madeCells (Value.cells (VD VJ 0)) (N*i.size),λW=>?_,?_⟩
 ·have:=run_make (P:=Tryz.prog) W 42 3 i (.int .i64 0) Tryz.underlying42 hi hz0 .i64 .i64 (N:Int) (N:Int) (by omega) (by omega) (by rw[hz2];omega) (by omega)
  simpa using this
 rw[size_madeCells,hz1,Nat.mul_one]
def Kg(w:VO)(n:Nat)(s9:Value)(wr:VO):Prop:=
 ∃(i:Nat) (cur:Array Value),s9=VD VJ i/\i<=n/\wr.1[w.1.size]?=some (.cells cur 3 (0,0))/\cur.size=n/\(∀j,j<i->cur[j]?=some (VD VJ ((j:Int)+1)))/\ac w wr
theorem DE{q p:Nat}(h:p<q):(St.nf q).getD p 0=(p:Int)+1:=by
 unfold St.nf;rw[List.getD_eq_getElem?_getD,List.getElem?_map,List.getElem?_range h];rfl
theorem EG(n:Nat)(w:VO)(hn:n<=100000) :
  Calls Tryz.prog 96 #[VD VJ (n:Int)] w λe w'=>∃A c,e=VL (VF A n c)/\fh w' A (St.nf n)/\n<=c/\c<=9223372036854775807/\ac w w':=by
 obtain⟨cz,hmk,hcz⟩:=Hc n (by omega);go_enter Tryz.func96,Tryz.ntmps96;go_wp2_with fail;go_loopw [9] (λs9 wr=>Kg w n s9 wr) (λs9 _=>n+1-(intOf s9).toNat)
 case atStart=>exact⟨0,cz,rfl,by omega,heap_alloc_new w _,hcz,λj hj=>absurd hj (by omega),(ac.refl w).alloc _⟩
 case round=>
  obtain⟨i,cur,rfl,hi,hh,hc,hj,hu⟩:=hrel;have HU:=aa hu;have HH:=aa hh;have HJ:=aa hj;have HC:=aa hc;haveI:af w.1.size wr:=af.of (ae hh)
  by_cases hlt:i<n
  ·obtain⟨x0,g0⟩:∃x0,wr.cell? ⟨w.1.size,i,none⟩=some x0:=⟨cur[i]'(by omega),by rw[ai hh i,Array.getElem?_eq_getElem]⟩;have f0:wr.frozen? ⟨w.1.size,i,none⟩=false:=bg hh i
   have hfin:=aa (show Kg w n (VD VJ ((i:Int)+1)) (wr.setCell ⟨w.1.size,i,none⟩ (VD VJ ((i:Int)+1)))from
    ⟨i+1,cur.setIfInBounds i (VD VJ ((i:Int)+1)),congrArg (VD VJ) (by omega),by omega,heap_setCell_same wr w.1.size i _ _ _ hh,by simp[hc],λj hj'=>by
     by_cases e:j=i
     ·subst e;rw[Array.getElem?_setIfInBounds_self_of_lt (by omega)]
     rw[Array.getElem?_setIfInBounds_ne (by omega)];exact HJ.out j (by omega),ac.mk (HU.out.below.setCell (p:=⟨w.1.size,i,none⟩) (Nat.le_refl _) _)⟩)
   clear hu hh hj hc;go_wp2;exact⟨hfin.out,by simp[intOf];omega⟩
  obtain rfl:i=n:=by omega
  have hfin:=aa (show fh wr (some ⟨w.1.size,0,none⟩) (St.nf i)from λ_=>⟨w.1.size,0,rfl,ae hh,λj hj'=>by
   rw[St.nC]at hj'
   rw[Nat.zero_add,ai hh j,hj j hj',DE hj']⟩)
  clear hu hh hj hc hlt;go_wp2;go_ret;exact⟨_,_,rfl,hfin.out,Nat.le_refl _,by omega,HU.out⟩
def wB(W:VO)(mb:Nat)(F:List Int)(j:Nat):Prop:=∃l,Mz.At W mb l/\∀i,Mz.look i l=if i∈F.drop j then some (VD VJ ((F.idxOf i:Int)+1))else none
theorem wB.ah{a c:VO}{mb j:Nat}{F:List Int}(h:wB a mb F j)(u:ac a c):wB c mb F j:=by
 obtain⟨l,h1,h2⟩:=h;exact⟨l,h1.ah u,h2⟩
def KK(w:VO)(F:List Int)(s8:Value)(wr:VO):Prop:=∃j:Nat,s8=VD VJ ((j:Int)-1)/\j<=F.length/\wB wr w.1.size F j/\ac w wr
def zg(w:VO)(f:List St.It)(F:List Int)(n:Nat)(s9 H6:Value)(wr:VO):Prop:=
 ∃k:Nat,k<=n/\H6=VD VJ k/\wr.ownsRow w.1.size 36 3 s9 k (av ((f.take k).map (St.ea F)))/\wB wr w.1.size F 0/\ac w wr
theorem JQ(f:List St.It)(F:List Int)(k:Nat)(h:k<f.length):av ((f.take (k+1)).map (St.ea F))=av ((f.take k).map (St.ea F))++[VD VJ (St.ea F f[k]).1,VE ⟨(St.ea F f[k]).2.1.toArray⟩,VD VJ (St.ea F f[k]).2.2]:=by
 rw[List.take_add_one,List.getElem?_eq_getElem h,List.map_append];exact bw _ _
theorem LX(f:List St.It)(F:List Int):aP (f.map (St.ea F))=aP f:=by
 unfold aP;rw[List.map_map];congr 1;refine List.map_congr_left λx _=>?_
 show(St.ea F x).2.1.length=_
 unfold St.ea;split<;>rfl
theorem Jz(A B C:Option Addr)(n c q d e0:Nat)(f:List St.It)(F:List Int)(w:VO)(hn:f.length=n)(hq:F.length=q)(h:aE w A f)(hB:fh w B F)(hC:fh w C (St.nf q))(hnd:F.Nodup)(hall:∀x∈f,St.bI x.1=true->x.2.2∈F)(hl:n<=100000)(pT:q<=100000)(ht:aP f<=1000000000000) :
  Calls Tryz.prog 95 #[VF A n c,VF B q d,VF C q e0] w λe w'=>∃v,e=VL v/\w'.ownsRow w.1.size 36 3 v (St.bu (f.map (St.ea F))).length (av (St.bu (f.map (St.ea F))))/\ac w w':=by
 have H:=aa h;have HN:=aa hn;have HQ:=aa hq;have HB:=aa hB;have HC:=aa hC;have CK:=aa hnd;have Iv:=aa hall;have HT:=aa ht;have hm:Tryz.prog.underlying 184=some (.map 3 3):=by kernel_rfl
 have hmk:∀W:VO,(Instr.makeMap 184 none).run Tryz.prog W=.ok (.map (some W.1.size)) (W.alloc (.map #[] 0)):=λW=>rfl
 have CJ:=aa hm;obtain⟨i0,hi,hz0,hz1,hz2⟩:=info_parts dA;clear h hn hq hB hC hnd hall ht hm;have yh:min (q:Int) (q:Int)=(q:Int):=by omega
 go_enter Tryz.func95,Tryz.ntmps95;go_wp2_with fail;go_loopw [8] (λs8 wr=>KK w F s8 wr) (λs8 _=>(intOf s8+1).toNat)
 case atStart=>exact⟨q,rfl,by rw[HQ.out];omega,⟨[],heap_alloc_new w _,λi=>by rw[List.drop_of_length_le (by rw[HQ.out];omega)];rfl⟩,(ac.refl w).alloc _⟩
 case round=>
  obtain⟨j,rfl,hj,hnw,hu⟩:=hrel;have HU:=aa hu;have hQ:=HQ.out
  by_cases K1:0<j
  ·obtain⟨m,rfl⟩:∃m,j=m+1:=⟨j-1,by omega⟩;have z1:((m+1:Nat):Int)-1=(m:Int):=by omega
   have z2:(0:Int)<=(m:Int):=by omega
   have z3:(m:Int)<(q:Int):=by omega
   obtain⟨b1,o1,rfl,hb1,hc1⟩:=(HB.out.ah hu) (by omega);obtain⟨b2,o2,rfl,hb2,hc2⟩:=(HC.out.ah hu) (by rw[St.nC];omega);have e1:=hc1 m (by omega);have e2:=hc2 m (by rw[St.nC];omega);rw[DE (by omega)]at e2;have Oh:m<F.length:=by omega
   have QW:F.getD m 0=F[m]:=by rw[List.getD_eq_getElem?_getD,List.getElem?_eq_getElem Oh];rfl
   have hdr:F.drop m=F[m] :: F.drop (m+1):=List.drop_eq_getElem_cons Oh;have bK:F.idxOf F[m]=m:=CK.out.idxOf_getElem m Oh
   have aZ:F[m] ∉ F.drop (m+1):=by
    have hs:(F.drop m).Nodup:=CK.out.sublist (List.drop_sublist _ _);rw[hdr]at hs;exact(List.nodup_cons.1 hs).1
   rw[QW]at e1;obtain⟨l,hat,hlk⟩:=hnw;have oT:Mz.look F[m] l=none:=by rw[hlk,if_neg aZ]
   have vD:Mz.At wr.drew w.1.size l:=hat;have hpt:=Mz.Dx CJ.out (VD VJ ((m:Int)+1)) vD oT
   have hfin:=aa (show KK w F (VD VJ ((m:Int)-1)) (Mz.put wr.drew w.1.size (l++[(F[m],VD VJ ((m:Int)+1))]))from
    ⟨m,rfl,by omega,⟨_,Mz.Hn vD _,λi=>by
     rw[Mz.Hb,hlk,hdr]
     by_cases h1:i∈F.drop (m+1)
     ·rw[if_pos h1,if_pos (List.mem_cons_of_mem _ h1)]
     rw[if_neg h1]
     by_cases h2:i=F[m]
     ·simp only[if_pos h2];rw[if_pos (by rw[h2];exact List.mem_cons_self),h2,bK]
     simp only[if_neg h2]
     rw[if_neg (by intro e;rcases List.mem_cons.1 e with e|e;exact h2 e;exact h1 e)]⟩,Mz.Dn _ (HU.out.drew) (Nat.le_refl _)⟩)
   generalize F[m]=fm at e1 hpt hfin;haveI:af b1 wr:=af.of hb1;haveI:af b2 wr:=af.of hb2;clear hu hc1 hc2 hat hlk oT QW hdr bK aZ vD;rw[z1];go_wp2_with fail;go_region_law (fail)
   all_goals
    go_wp2;exact⟨hfin.out,by first|(simp[intOf];done)|(simp[intOf];omega)⟩
  obtain rfl:j=0:=by omega
  have CM:=aa hnw;have z1:¬(0:Int)<=((0:Nat):Int)-1:=by omega
  clear hu hnw K1 hmk;go_wp2_with fail;go_loopw [9,36] (λs9 H6 wr=>zg w f F n s9 H6 wr) (λ_ H6 _=>n+1-(intOf H6).toNat)
  case atStart=>exact⟨0,by omega,rfl,World.ownsRow_nil _ _ _ _,CM.out,HU.out⟩
  case round=>
   clear CM HU;obtain⟨k,hk,rfl,hown,hnw,hu⟩:=hrel;have HU:=aa hu;have hsz:=hu.size;have HOW:=aa hown;have CM:=aa hnw;have hN:=HN.out;obtain⟨AO,cO,rfl,_⟩:=aC hown;clear hu hnw
   by_cases hlt:k<n
   ·clear hown;have aG:k<f.length:=by omega
    obtain⟨b,off,rfl,hb,hc⟩:=(H.out.ah HU.out) (by omega);obtain⟨c0,c1,c2⟩:=hc k aG;have kj:=JQ f F k aG;have hal:=Iv.out f[k] (List.getElem_mem aG);generalize f[k]=x at c0 c1 c2 kj hal;obtain⟨kd,tx,id⟩:=x;simp only at c0 c1 c2 hal;have hit:=λt W=>qD kd t id W
    haveI:af b wr:=af.of hb
    have hbb:∀(i:Int) (v':Value) (w4:VO),St.ea F (kd,tx,id)=(kd,tx,i)->w4.ownsRow w.1.size 36 3 v' (k+1) (av ((f.take k).map (St.ea F))++[VD VJ kd,VE ⟨tx.toArray⟩,VD VJ i])->wB w4 w.1.size F 0->ac w w4->zg w f F n v' (VD VJ ((k:Int)+1)) w4:=λi v' w4 e h1 h2 h3=>
     ⟨k+1,by omega,congrArg (VD VJ) (by omega),by rw[kj,e];exact h1,h2,h3⟩
    have dq:=aa hbb;clear hc aG kj hbb;cases cI:St.bI kd
    ·rw[cI]at hit;have HIT:=aa hit;have hre:=aa (show St.ea F (kd,tx,id)=(kd,tx,id)by unfold St.ea;rw[if_neg (by simp[cI])]);clear hit cI hal;go_wp2_with fail;refine(HIT.out _ _).mono ?_;rintro e w3 ⟨rfl,hu3⟩;have bO:ac wr w3:=ac.trans (uZ) hu3;have d0:w3.cell? ⟨wr.1.size,0,none⟩=some (.int .i64 kd):=(hu3.cell (p:=⟨wr.1.size,0,none⟩) (by simp)).trans (by simp);have d1:w3.cell? ⟨wr.1.size,1,none⟩=some (.string ⟨tx.toArray⟩):=(hu3.cell (p:=⟨wr.1.size,1,none⟩) (by simp)).trans (by simp);have d2:w3.cell? ⟨wr.1.size,2,none⟩=some (.int .i64 id):=(hu3.cell (p:=⟨wr.1.size,2,none⟩) (by simp)).trans (by simp);haveI:af wr.1.size w3:=af.of (cd _ _ d0);have ba:=aa (HU.out.trans bO);have jw:=aa (aA bO HOW.out);have RB:=aa (CM.out.ah bO);have hs3:=ba.out.size;clear hu3 bO c0 c1 c2;go_wp2_with (at_builtin;refine wpList_append_own _ rfl _ _ 37 rfl w.1.size 36 i0 (.agg #[.int .i64 0,.string ⟨#[]⟩,.int .i64 0]) 3 32 Tryz.underlying37 hi hz0 hz1 hz2 rfl (by decide) (.slice AO k cO) k _ rfl (jw.out.alloc _) _ 1 1 [.int .i64 kd,.string ⟨tx.toArray⟩,.int .i64 id] rfl rfl ?_ (cG _ _ _) (by unfold maxLen;omega) (by omega) ?_ ?_)
     all_goals try exact ee _ _ _ _ _ _ rfl
     all_goals try (simp;omega;done)
     intro v' w4 hown' hgrow _;have HE:=aa (dq.out id v' w4 hre.out (by rw[List.map_take];exact hown') (by obtain⟨l,h1,h2⟩:=RB.out;exact⟨l,Mz.uo (h1.ah ((ac.refl w3).alloc _)) hgrow (jw.out.alloc _),h2⟩) ((ba.out.alloc _).grown hgrow (λg hg=>ax jw.out g hg)));clear hown' hgrow;go_wp2;exact⟨HE.out,by simp[intOf];omega⟩
    rw[cI]at hit;have HIT:=aa hit;have hin:=hal cI;obtain⟨vT,hnid⟩:∃vT:Int,vT=(F.idxOf id:Int)+1:=⟨_,rfl⟩;have hre:=aa (show St.ea F (kd,tx,id)=(kd,tx,vT)by unfold St.ea;rw[if_pos (by simp[cI]),hnid]);clear hit cI hal;go_wp2_with fail;refine(HIT.out _ _).mono ?_;rintro e w3 ⟨rfl,hu3⟩;have bO:ac wr w3:=ac.trans (uZ) hu3;have hb3:=(hu3.below.block wr.1.size (by simp)).trans (heap_alloc_new wr (.cells #[VD VJ kd,VE ⟨tx.toArray⟩,VD VJ id] 36));have d0:w3.cell? ⟨wr.1.size,0,none⟩=some (VD VJ kd):=ai hb3 0;have d1:w3.cell? ⟨wr.1.size,1,none⟩=some (VE ⟨tx.toArray⟩):=ai hb3 1;have d2:w3.cell? ⟨wr.1.size,2,none⟩=some (VD VJ id):=ai hb3 2;have f2:w3.frozen? ⟨wr.1.size,2,none⟩=false:=bg hb3 2;haveI:af wr.1.size w3:=af.of (ae hb3);have ba:=aa (HU.out.trans bO);have jw:=aa (aA bO HOW.out);have Sl:=CM.out.ah bO;obtain⟨l,hat,hlk⟩:=Sl;have hget:=Mz.run_get CJ.out true hat (show Mz.look id l=some (VD VJ vT)by rw[hlk,if_pos (by simpa using hin),hnid]);simp only[if_true]at hget;have hs3:=ba.out.size;have Si:w.1.size<wr.1.size:=by obtain⟨l0,h1,_⟩:=CM.out;exact h1.lt
    have kA:ac w (w3.setCell ⟨wr.1.size,2,none⟩ (.int .i64 vT)):=ac.mk (ba.out.below.setCell (p:=⟨wr.1.size,2,none⟩) hsz _);have qB:(w3.setCell ⟨wr.1.size,2,none⟩ (.int .i64 vT)).ownsRow w.1.size 36 3 (.slice AO k cO) k (av ((f.take k).map (St.ea F))):=aF jw.out (λe=>by have:=(HOW.out.lt _ e).2;omega);have Lc:Mz.At (w3.setCell ⟨wr.1.size,2,none⟩ (.int .i64 vT)) w.1.size l:=(Below.heap_setCell w3 ⟨wr.1.size,2,none⟩ _ w.1.size (by simp;omega)).trans hat;have zN:=aa (And.intro kA (And.intro qB Lc));have rJ:=aa hlk;clear hu3 bO c0 c1 c2 hb3 kA qB Lc hat hlk hin hnid;go_wp2_with (at_builtin;refine wpList_append_own _ rfl _ _ 37 rfl w.1.size 36 i0 (.agg #[.int .i64 0,.string ⟨#[]⟩,.int .i64 0]) 3 32 Tryz.underlying37 hi hz0 hz1 hz2 rfl (by decide) (.slice AO k cO) k _ rfl (zN.out.2.1.alloc _) _ 1 1 [.int .i64 kd,.string ⟨tx.toArray⟩,.int .i64 vT] rfl rfl ?_ (cG _ _ _) (by unfold maxLen;omega) (by omega) ?_ ?_)
    all_goals try exact ee _ _ _ _ _ _ (by first|rfl|(simp;done))
    all_goals try (simp;omega;done)
    intro v' w4 hown' hgrow _;have HE:=aa (dq.out vT v' w4 hre.out (by rw[List.map_take];exact hown') ⟨l,Mz.uo (zN.out.2.2.ah ((ac.refl _).alloc _)) hgrow (zN.out.2.1.alloc _),rJ.out⟩ ((zN.out.1.alloc _).grown hgrow (λg hg=>ax jw.out g hg)));clear hown' hgrow;go_wp2;exact⟨HE.out,by simp[intOf];omega⟩
   have hkn:k=n:=by omega
   subst hkn;have hft:f.take k=f:=List.take_of_length_le (by omega);rw[hft]at hown;have hno:=yn AO k cO (f.map (St.ea F)) wr (by simp;omega) (aM hown (by simp;omega)) (by omega) (by rw[LX];exact HT.out);have iu:=aa hno;clear hlt hown hno hft;go_wp2_with fail;refine iu.out.mono ?_;rintro e w5 ⟨v,rfl,ho,a8⟩;have HE:=aa (And.intro (cC ho (by omega)) (HU.out.trans a8));clear ho a8;go_wp2;go_ret;exact⟨v,rfl,HE.out.1,HE.out.2⟩
theorem EV(f:List St.It):(St.jK f).Nodup/\∀x∈f,St.bI x.1=true->x.2.2∈St.jK f:=by
 have key:∀(f:List St.It) (l:List Int),l.Nodup->(f.foldl St.dT l).Nodup/\(∀i∈l,i∈f.foldl St.dT l)/\∀x∈f,St.bI x.1=true->x.2.2∈f.foldl St.dT l:=by
  intro f
  induction f with
  | nil=>exact λl hl=>⟨hl,λi hi=>hi,λx hx=>by cases hx⟩
  | cons y f ih=>
   intro l hl;rw[List.foldl_cons]
   have h1:(St.dT l y).Nodup/\(∀i∈l,i∈St.dT l y)/\(St.bI y.1=true->y.2.2∈St.dT l y):=by
    unfold St.dT
    split
    ·rename_i h
     refine⟨?_,λi hi=>by simp[hi],λ_=>by simp⟩;rw[List.nodup_append];refine⟨hl,by simp,λa ha b hb=>?_⟩;simp at hb;subst hb;intro e;subst e;exact h.2 ha
    rename_i h
    exact⟨hl,λi hi=>hi,λht=>Classical.byContradiction λhc=>h ⟨ht,hc⟩⟩
   obtain⟨g1,g2,g3⟩:=ih _ h1.1;refine⟨g1,λi hi=>g2 i (h1.2.1 i hi),λx hx ht=>?_⟩;rcases List.mem_cons.1 hx with rfl|hx
   ·exact g2 _ (h1.2.2 ht)
   exact g3 x hx ht
 obtain⟨h1,_,h3⟩:=key f [] List.nodup_nil;exact⟨h1,h3⟩
theorem EI(A:Option Addr)(n c:Nat)(f:List St.It)(w:VO)(hn:f.length=n)(h:aE w A f)(hl:n<=100000)(ht:aP f<=1000000000000) :
  Calls Tryz.prog 53 #[VF A n c] w λe w'=>∃v,e=VL v/\w'.ownsRow w.1.size 36 3 v (St.lA f).length (av (St.lA f))/\ac w w':=by
 have H1:=aa (Jw A n c f w hn h hl);have H:=aa h;obtain⟨hnd,hall⟩:=EV f;have CK:=aa hnd;have Iv:=aa hall;clear h hnd hall;go_enter Tryz.func53,Tryz.ntmps53;go_wp2_with fail;refine H1.out.mono ?_;rintro e w2 ⟨v2,rfl,hqn,fk,hu2⟩;obtain⟨A2,c2,rfl,_,_,_⟩:=aJ fk;have aW:=aa hu2;have u6:=aa (O1 fk rfl);have Ng:=aa (λW=>EG (St.jK f).length W (by omega));clear hu2 fk H1;go_wp2_with fail;refine(Ng.out _).mono ?_;rintro e w3 ⟨A3,c3,rfl,hI3,_,_,hu3⟩;have hr:=Jz A A2 A3 n c (St.jK f).length c2 c3 f (St.jK f) w3 hn rfl (H.out.ah (aW.out.trans hu3)) (u6.out.ah hu3) hI3 CK.out Iv.out hl (by omega) ht;have HR:=aa hr;have ba:=aa (aW.out.trans hu3);clear hr hI3 hu3;go_wp2_with fail;refine HR.out.mono ?_;rintro e w4 ⟨v,rfl,ho,aU⟩;have HE:=aa (And.intro (cC ho (by have:=ba.out.size;omega)) (ba.out.trans aU));clear ho aU;go_wp2;go_ret;exact⟨v,rfl,HE.out.1,HE.out.2⟩
end
