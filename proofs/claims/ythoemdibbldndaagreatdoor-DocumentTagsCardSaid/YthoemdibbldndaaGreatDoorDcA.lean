/- The contract of item.Normalize: what it gives is St.normL. -/
import Derived.Lib.AppendStr
import Derived.Lib.AppendZerosOnto
import Derived.Test.YthoemdibbldndaaGreatDoorGI
import Derived.Laws.OwnMore
import Derived.Test.YthoemdibbldndaaGreatDoorRefSame
import Derived.MapKept
import Derived.Test.YthoemdibbldndaaGreatDoorGF
import Derived.BigQuiet
import Derived.Laws.MakeOwn
import Derived.Deep.RegionLaw
set_option linter.all false
set_option maxHeartbeats 0
set_option maxRecDepth 20000
open Go.Value renaming int->UM,string->UN,slice->UO,bool->UP,tuple->UR
open Go.IntKind renaming i64->US
open Go.Ending renaming returned->UU
open Go renaming World->UY
namespace Go.Proofs.YthoemdibbldndaaGreatDoor
open Go.RowKit
section
theorem Jq{f:List St.It}{t:List UInt8}(h:St.fu f)(s:List UInt8)(i:Int):St.aP (f++St.b8 t) (1,s,i)=f++St.b8 (t++s):=by
 by_cases hs:s=[]
 ·subst hs;rw[List.append_nil];unfold St.aP;rw[if_pos rfl,if_pos rfl]
 unfold St.b8
 by_cases ht:t=[]
 ·subst ht;simp only[if_true,List.append_nil,List.nil_append];rw[if_neg hs];rcases St.cG f with rfl|⟨a,b,rfl⟩
  ·rw[St.ek];simp[hs]
  rw[St.cS];have:=h b (by simp)
  simp[this,hs]
 rw[if_neg ht,if_neg (by simp[ht]),St.cS];simp[hs]
theorem DL(f:List St.It)(k:Nat)(h:k<f.length):St.bH (f.take (k+1))=St.aP (St.bH (f.take k)) f[k]:=by
 rw[List.take_add_one,List.getElem?_eq_getElem h];exact St.eE _ _
theorem I5(f:List St.It)(k:Nat)(h:k<f.length):bc (f.take (k+1))=bc (f.take k)+f[k].2.1.length:=by
 rw[List.take_add_one,List.getElem?_eq_getElem h];exact cR _ _
theorem tc(f:List St.It)(k:Nat):bc (f.take k)<=bc f:=by
 have e:bc f=bc (f.take k)+bc (f.drop k):=by
  conv=>lhs;rw[<-List.take_append_drop k f]
  unfold bc;rw[List.map_append,List.sum_append]
 omega
theorem GC{w:UY}{B n c:Nat}{A:Option Addr}{l:List UInt8}(h:w.ownsRow B 5 1 (UO A n c) n (Lib.byteCells l))(h0:0<n) :
  (convert 22 9 (UO A n c)).run Tryz.prog w=.ok (UN ⟨l.toArray⟩) w:=by
 have hl:l.length=n:=by have:=h.1;rw[Lib.byteCells_length]at this;simpa using this
 obtain⟨g,rfl,_,_,hc⟩:=fg h h0
 rw[run_convert_bytes_arg w 22 5 Tryz.underlying22 Tryz.underlying5 g 0 n c (l.map λx=>(x.toNat:Int)) (by simpa using hl) (λi hi=>by
  rw[Nat.zero_add];refine hc i _ ?_;have hil:i<l.length:=by omega
  simp[Lib.byteCells,List.getD_eq_getElem?_getD,hil]) _ Tryz.underlying9]
 simp[strOfNums,Function.comp_def]
theorem xo(s:List UInt8):Lib.strCells ⟨s.toArray⟩=Lib.byteCells s:=by
 simp[Lib.strCells,Lib.byteCells]
theorem zm(a b:List UInt8):Lib.byteCells a++Lib.byteCells b=Lib.byteCells (a++b):=by simp[Lib.byteCells]
def vb(w:UY)(f:List St.It)(n:Nat)(s3 s4:Value)(wr:UY):Prop:=
 ∃(k:Nat) (O:List St.It),k<=n/\s4=UM US k/\O=St.bH (f.take k)/\(∀x,f[k]?=some x->x.1=1->St.fu O)/\O.length<=k/\wr.ownsRow w.1.size 36 3 s3 O.length (av O)/\ac w wr
def Gs(w:UY)(f O:List St.It)(n k:Nat)(v:Value)(s4 s5:Value)(wr:UY):Prop:=
 ∃(j:Nat) (t:List UInt8),k<=j/\j<=n/\s4=UM US j/\St.bH (f.take j)=O++St.b8 t/\t.length<=bc (f.take j)/\wr.ownsRow w.1.size 5 1 s5 t.length (Lib.byteCells t)/\wr.ownsRow w.1.size 36 3 v O.length (av O)/\ac w wr
theorem yy(A:Option Addr)(n c:Nat)(f:List St.It)(w:UY)(hn:f.length=n)(h:aO w A f)(hl:n<=1000000)(ht:bc f<=1000000000000) :
  Calls Tryz.prog 130 #[UO A n c] w λe w'=>∃v,e=UU v/\w'.ownsRow w.1.size 36 3 v (St.bH f).length (av (St.bH f))/\ac w w':=by
 have H:=aa h;have HN:=aa hn;have HT:=aa ht;obtain⟨i0,hi,hz0,hz1,hz2⟩:=info_parts dw;obtain⟨ib,kb,kz0,kz1,kz2⟩:=info_parts pf;clear h hn ht;go_enter Tryz.func130,Tryz.ntmps130;go_wp2;go_loopw [3,4] (λs3 s4 wr=>vb w f n s3 s4 wr) (λ_ s4 _=>n+1-(intOf s4).toNat)
 case atStart=>exact⟨0,[],by omega,rfl,rfl,λ_ _ _=>St.pk,by simp,World.ownsRow_nil _ _ _ _,ac.refl _⟩
 case round=>
  obtain⟨k,O,hk,rfl,hO,hNT,NZ,hown,hu⟩:=hrel;have HU:=aa hu;have hsz:=hu.size;have HOW:=aa hown;have np:=aa hNT;have Le:=aa hO;have hN:=HN.out;obtain⟨AO,cO,rfl,_⟩:=aL hown;clear hu hNT hO
  by_cases hlt:k<n
  ·clear hown;have aS:k<f.length:=by omega
   obtain⟨b,off,hAe,hb,hc⟩:=(H.out.ai HU.out) (by omega);obtain⟨c0,c1,c2⟩:=hc k aS;have hnt:=DL f k aS;have hgx:f[k]?=some f[k]:=List.getElem?_eq_getElem aS;generalize f[k]=x at c0 c1 c2 hnt hgx;obtain⟨kd,tx,id⟩:=x;simp only at c0 c1 c2;haveI:af b wr:=af.of hb;have Rm:=aa hnt;have Qa:=aa hgx;clear hc hnt hgx
   by_cases k1:kd=1
   ·subst k1;have Sx:=aa (np.out _ Qa.out rfl);subst hAe;go_wp2_with fail;go_loopw [4,5] (λs4 s5 wr=>Gs w f O n k (UO AO O.length cO) s4 s5 wr) (λs4 _ _=>n+1-(intOf s4).toNat)
    case atStart=>exact⟨k,[],Nat.le_refl _,hk,rfl,by unfold St.b8;simp[Le.out],by simp,World.ownsRow_nil _ _ _ _,HOW.out,HU.out⟩
    case round=>
     clear c0 c1 c2;obtain⟨j,t,hkj,hjn,rfl,hno,htl,hob,hown,hu⟩:=hrel;have aZ:=aa hu;have Ld:=aa hob;have wF:=aa hown;have kl:=aa hno;have hT:=HT.out;have htk:=tc f j;have kr:=hu.size;obtain⟨AB,cB,rfl,_⟩:=aL hob;clear hu hob hown hno
     by_cases vC:j<n/\(f[j]?.map (·.1))=some 1
     ·obtain⟨hjl,qg⟩:=vC;have ia:j<f.length:=by omega
      obtain⟨b2,off2,hAe2,hb2,hc2⟩:=(H.out.ai aZ.out) (by omega);obtain⟨rfl,rfl⟩:b=b2/\off=off2:=by simp at hAe2;exact hAe2
      obtain⟨e0,e1,e2⟩:=hc2 j ia;have hnt:=DL f j ia;have ny:=I5 f j ia;rw[List.getElem?_eq_getElem ia]at qg;generalize f[j]=y at e0 e1 e2 hnt qg ny;obtain⟨yk,yt,yi⟩:=y;simp only[Option.map_some,Option.some.injEq]at qg;subst qg;simp only at e0 e1 e2 ny;rw[kl.out,Jq Sx.out]at hnt;haveI:af b wr:=af.of hb2;have Tm:(⟨yt.toArray⟩:ByteArray).size=yt.length:=by show yt.toArray.size=_;simp
      have T3:=tc f (j+1);have Rn:=aa hnt;clear hc2 hnt ia;go_wp2_with (at_builtin;refine Lib.wpList_append_own_string _ rfl _ _ 22 9 rfl w.1.size 5 ib Tryz.underlying22 Tryz.underlying9 kb kz0 kz1 kz2 _ _ _ rfl Ld.out ⟨yt.toArray⟩ rfl ?_ ?_ ?_ ?_)
      ·unfold maxLen;omega
      ·show t.length+(⟨yt.toArray⟩:ByteArray).size<=_;rw[Tm];omega
      intro v' w4 hown' hgrow _;rw[xo,zm]at hown';have l5:=wF.out.kept hgrow (cX wF.out Ld.out (by decide));have a6:=aZ.out.grown hgrow (λg hg=>aG Ld.out g hg);have HE:=aa (show Gs w f O n k (UO AO O.length cO) (UM US ((j:Int)+1)) v' w4 from⟨j+1,t++yt,by omega,by omega,congrArg (UM US) (by omega),Rn.out,by rw[List.length_append,ny];omega,by rw[List.length_append];exact hown',l5,a6⟩);clear hown' hgrow l5 a6;go_wp2;exact⟨HE.out,by simp[intOf];omega⟩
     have TZ:k<j:=by
      rcases Nat.lt_or_ge k j with h|h
      ·exact h
      exfalso;have:j=k:=by omega
      subst this;exact vC ⟨hlt,by rw[Qa.out];rfl⟩
     have hnx:∀x,f[j]?=some x->x.1=1->∀O':List St.It,St.fu O':=by
      intro x hx h1 O';exfalso;refine vC ⟨?_,by rw[hx];simp[h1]⟩;rcases Nat.lt_or_ge j n with h|h
      ·exact h
      rw[List.getElem?_eq_none (by omega)]at hx;cases hx
     have No:=aa hnx;clear hnx
     by_cases ht0:t=[]
     ·subst ht0;have hfin:=aa (show vb w f n (UO AO O.length cO) (UM US j) wr from⟨j,O,hjn,rfl,by rw[kl.out];simp[St.b8],λx hx h1=>No.out x hx h1 O,by omega,wF.out,aZ.out⟩)
      by_cases hjl:j<n
      ·have ia:j<f.length:=by omega
       obtain⟨b2,off2,hAe2,hb2,hc2⟩:=(H.out.ai aZ.out) (by omega);obtain⟨rfl,rfl⟩:b=b2/\off=off2:=by simp at hAe2;exact hAe2
       have e0:=(hc2 j ia).1;have hy1:¬f[j].1=1:=λe=>vC ⟨hjl,by rw[List.getElem?_eq_getElem ia];simp[e]⟩
       generalize f[j].1=yk at e0 hy1;have q1:(yk==1)=false:=by simpa using hy1
       haveI:af b wr:=af.of hb2;clear hc2 vC hy1;go_wp2;exact⟨hfin.out,by simp[intOf];omega⟩
      clear vC;go_wp2;exact⟨hfin.out,by simp[intOf];omega⟩
     have DA:0<t.length:=List.length_pos_iff.2 ht0;have zt:(0:Int)<(t.length:Int):=by omega
     have hcv:∀W,ac wr W->(convert 22 9 (UO AB t.length cB)).run Tryz.prog W=.ok (UN ⟨t.toArray⟩) W:=λW hW=>GC (aE hW Ld.out) DA
     have TW:=hcv _ (ac.refl _)
     have hfin:∀v' w4,w4.ownsRow w.1.size 36 3 v' (O.length+1) (av O++[UM US 1,UN ⟨t.toArray⟩,UM US 0])->ac w w4->vb w f n v' (UM US j) w4:=λv' w4 h1 h2=>
      ⟨j,O++[(1,t,0)],hjn,rfl,by rw[kl.out];simp[St.b8,ht0],λx hx h1=>No.out x hx h1 _,by simp;omega,by rw[bE,List.length_append,List.length_singleton];exact h1,h2⟩
     have dr:=aa hfin;have N4:∀(W:UY),ac wr W->W.ownsRow w.1.size 36 3 (UO AO O.length cO) O.length (av O):=λW hW=>aE hW wF.out
     by_cases hjl:j<n
     ·have ia:j<f.length:=by omega
      obtain⟨b2,off2,hAe2,hb2,hc2⟩:=(H.out.ai aZ.out) (by omega);obtain⟨rfl,rfl⟩:b=b2/\off=off2:=by simp at hAe2;exact hAe2
      have e0:=(hc2 j ia).1;have hy1:¬f[j].1=1:=λe=>vC ⟨hjl,by rw[List.getElem?_eq_getElem ia];simp[e]⟩
      generalize f[j].1=yk at e0 hy1;have q1:(yk==1)=false:=by simpa using hy1
      haveI:af b wr:=af.of hb2;clear hc2 vC hy1;go_wp2_with (at_builtin;refine wpList_append_own _ rfl _ _ 37 rfl w.1.size 36 i0 (.agg #[.int .i64 0,.string ⟨#[]⟩,.int .i64 0]) 3 32 Tryz.underlying37 hi hz0 hz1 hz2 rfl (by decide) (.slice AO O.length cO) O.length _ rfl (N4 _ uZ) _ 1 1 [.int .i64 1,.string ⟨t.toArray⟩,.int .i64 0] rfl rfl ?_ (cN _ _ _) (by unfold maxLen;omega) (by omega) ?_ ?_)
      all_goals try exact eA _ _ _ _ _ _ rfl
      all_goals try omega
      all_goals try (simp;omega;done)
      intro v' w4 hown' hgrow _;have HE:=aa (dr.out v' w4 hown' ((aZ.out.trans uZ).grown hgrow (λg hg=>aG wF.out g hg)));clear hown' hgrow;go_wp2;exact⟨HE.out,by simp[intOf];omega⟩
     clear vC;go_wp2_with (at_builtin;refine wpList_append_own _ rfl _ _ 37 rfl w.1.size 36 i0 (.agg #[.int .i64 0,.string ⟨#[]⟩,.int .i64 0]) 3 32 Tryz.underlying37 hi hz0 hz1 hz2 rfl (by decide) (.slice AO O.length cO) O.length _ rfl (N4 _ uZ) _ 1 1 [.int .i64 1,.string ⟨t.toArray⟩,.int .i64 0] rfl rfl ?_ (cN _ _ _) (by unfold maxLen;omega) (by omega) ?_ ?_)
     all_goals try exact eA _ _ _ _ _ _ rfl
     all_goals try omega
     all_goals try (simp;omega;done)
     intro v' w4 hown' hgrow _;have HE:=aa (dr.out v' w4 hown' ((aZ.out.trans uZ).grown hgrow (λg hg=>aG wF.out g hg)));clear hown' hgrow;go_wp2;exact⟨HE.out,by simp[intOf];omega⟩
   have q1:(kd==1)=false:=by simpa using k1
   have q2:(kd != 1)=true:=by simpa using k1
   have hadd:St.bH (f.take (k+1))=O++[(kd,tx,id)]:=by rw[Rm.out,<-Le.out];unfold St.aP;rw[if_neg k1]
   have hfin:∀v' w4,w4.ownsRow w.1.size 36 3 v' (O.length+1) (av O++[UM US kd,UN ⟨tx.toArray⟩,UM US id])->ac w w4->vb w f n v' (UM US ((k:Int)+1)) w4:=λv' w4 h1 h2=>
    ⟨k+1,O++[(kd,tx,id)],by omega,congrArg (UM US) (by omega),hadd.symm,λ_ _ _=>St.lS _ _ _ _ k1,by simp;omega,by rw[bE,List.length_append,List.length_singleton];exact h1,h2⟩
   have dr:=aa hfin;subst hAe;clear k1 hadd hfin;go_wp2_with (at_builtin;refine wpList_append_own _ rfl _ _ 37 rfl w.1.size 36 i0 (.agg #[.int .i64 0,.string ⟨#[]⟩,.int .i64 0]) 3 32 Tryz.underlying37 hi hz0 hz1 hz2 rfl (by decide) (.slice AO O.length cO) O.length _ rfl (HOW.out.alloc _) _ 1 1 [.int .i64 kd,.string ⟨tx.toArray⟩,.int .i64 id] rfl rfl ?_ (cN _ _ _) (by unfold maxLen;omega) (by omega) ?_ ?_)
   all_goals try exact eA _ _ _ _ _ _ rfl
   all_goals try omega
   all_goals try (simp;omega;done)
   intro v' w4 hown' hgrow _;have HE:=aa (dr.out v' w4 hown' ((HU.out.alloc _).grown hgrow (λg hg=>aG HOW.out g hg)));clear hown' hgrow;go_wp2;exact⟨HE.out,by simp[intOf];omega⟩
  have hkn:k=n:=by omega
  subst hkn;have hft:f.take k=f:=List.take_of_length_le (by omega);rw[hft]at Le;have S4:=Le.out;subst S4;clear hlt hft;go_wp2;go_ret;exact⟨_,rfl,HOW.out,HU.out⟩
end
section
set_option maxRecDepth 100000 in
theorem JS(n:Nat)(w:UY)(hn:n<=200000) :
  Calls Tryz.prog 174 #[UO none 0 0,UM US (n:Int)] w λe w'=>∃v,e=UU v/\w'.ownsRow w.1.size 36 3 v 0 []/\ac w w':=by
 obtain⟨i0,hi,hz0,hz1,hz2⟩:=info_parts dw
 by_cases h0:n=0
 ·subst h0;go_enter Tryz.func174,Tryz.ntmps174;go_wp2;go_ret;exact⟨_,rfl,World.ownsRow_nil _ _ _ _,ac.refl _⟩
 have z1:¬(n:Int)<0:=by omega
 have z2:(0:Int)<(n:Int):=by omega
 have hold:(Builtin.firstCells i0.size 0 (UO none 0 0)).run Tryz.prog w.drew=.ok ([]:List Value).toArray w.drew:=run_firstCells_none w.drew i0.size 0 0 0
 have Dz:∀ty,(Builtin.append_ #[37,3] ty #[UO none 0 0,UM US (n:Int)]).run Tryz.prog w=.ok (UO (some ⟨w.1.size,0,none⟩) (0+n) (grownCap w (0+n) 0 36)) (w.drew.alloc (.cells (([]:List Value).toArray++Builtin.zeroCells (Value.agg #[UM US 0,UN ⟨#[]⟩,UM US 0]).cells n++Builtin.zeroCells (Value.agg #[UM US 0,UN ⟨#[]⟩,UM US 0]).cells (grownCap w (0+n) 0 36-(0+n))) 36)):=λty=>
  Lib.run_append_grow_zeros w 37 3 ty 36 i0 _ .i64 .i64 Tryz.underlying37 Tryz.underlying3 hi hz0 none 0 0 [] hold n (by omega) (by omega) (by omega) (by omega) (by rw[hz2];omega) (by rw[hz2,Nat.zero_add];exact growslice_fits (by omega) (by omega))
 have hge:=grownCap_ge w (0+n) 0 36;have hle:=grownCap_le_maxLen w (0+n) 0 36 (by unfold maxLen;omega);obtain⟨G,hG⟩:∃G,G=grownCap w (0+n) 0 36:=⟨_,rfl⟩;rw[<-hG]at Dz hge hle;have Ok:G<=9223372036854775807:=by unfold maxLen at hle;omega
 have hown:∀cs:Array Value,cs.size=G*3->(w.alloc (.cells cs 36)).drew.ownsRow w.1.size 36 3 (UO (some ⟨w.1.size,0,none⟩) 0 G) 0 []:=λcs hcs=>
  ⟨rfl,.inr ⟨w.1.size,G,cs,rfl,Nat.le_refl _,heap_alloc_new w _,by omega,hle,hcs,by simp⟩⟩
 have HOWN:=aa hown;clear hold hG hown hle;go_enter Tryz.func174,Tryz.ntmps174;go_wp2_with (at_builtin;refine Lib.wpList_append_run _ rfl _ _ _ _ rfl _ _ rfl rfl _ _ (Dz _) ?_)
 all_goals (go_ret;exact⟨_,rfl,HOWN.out _ (by simp only[Array.size_append,size_zeroCells,List.size_toArray,List.length_cons,List.length_nil];omega),uZ⟩)
def Pc(w:UY)(n m:Nat)(s3 gi:Value)(wr:UY):Prop:=∃j:Nat,j<=2/\gi=UM US j/\s3=UM US (if j=0 then(0:Int)else if j=1 then(n:Int)else(n:Int)+m)/\w=wr
def Ef(w:UY)(f g:List St.It)(s6 IC:Value)(wr:UY):Prop:=∃j:Nat,j<=2/\IC=UM US j/\wr.ownsRow w.1.size 36 3 s6 (if j=0 then 0 else if j=1 then f.length else f.length+g.length) (av (if j=0 then[]else if j=1 then f else f++g))/\ac w wr
theorem KH(A B:Option Addr)(n c m d:Nat)(f g:List St.It)(ab:Nat)(w:UY)(hn:f.length=n)(hm:g.length=m)(hA:A=none->n=0/\c=0)(hB:B=none->m=0/\d=0)(h:aO w A f)(h':aO w B g)
  (hab:ab<w.1.size) (g0:w.cell? ⟨ab,0,none⟩=some (UO A n c)) (g1:w.cell? ⟨ab,1,none⟩=some (UO B m d)) (hl:n+m<=100000) :
  Calls Tryz.prog 131 #[UO (some ⟨ab,0,none⟩) 2 2] w λe w'=>∃v,e=UU v/\w'.ownsRow w.1.size 36 3 v (f++g).length (av (f++g))/\ac w w':=by
 have H:=aa h;have H':=aa h';have HG:=aa (JS (n+m) w (by omega));have HA:=aa hA;have HB:=aa hB;have hc:((n+m:Nat):Int)=(n:Int)+m:=by omega
 rw[hc]at HG;haveI:af ab w:=af.of hab;clear h h' hA hB hc;subst hn hm;go_enter Tryz.func131,Tryz.ntmps131;go_wp2_with fail;go_loopw [3,11] (λs3 gi wr=>Pc w f.length g.length s3 gi wr) (λ_ gi _=>3-(intOf gi).toNat)
 case atStart=>exact⟨0,by omega,rfl,rfl,rfl⟩
 case round=>
  obtain⟨j,hj,rfl,hs3,rfl⟩:=hrel;rcases(show j=0\/j=1\/j=2 by omega)with rfl|rfl|rfl
  ·obtain rfl:=hs3;have y1:¬((0:Int)+(f.length:Int)<0):=by omega
   have y2:¬((f.length:Int)<0):=by omega
   go_wp2;exact⟨⟨1,by omega,rfl,by first|rfl|(simp;done),rfl⟩,by simp[intOf]⟩
  ·obtain rfl:=hs3;simp only[if_neg (show ¬(1:Nat)=0 by omega),if_true];have y1:¬((f.length:Int)+(g.length:Int)<0):=by omega
   go_wp2;exact⟨⟨2,by omega,rfl,by first|rfl|(simp;done),rfl⟩,by simp[intOf]⟩
  obtain rfl:=hs3;simp only[if_neg (show ¬(2:Nat)=0 by omega),if_neg (show ¬(2:Nat)=1 by omega)];go_wp2_with fail;refine HG.out.mono ?_;rintro e w2 ⟨v,rfl,ho,hu⟩;have HO:=aa ho;have HU:=aa hu;obtain⟨AO,cO,rfl,_⟩:=aL ho;clear ho hu HG;go_wp2_with fail;go_loopw [6,27] (λs6 IC wr=>Ef w f g s6 IC wr) (λ_ IC _=>3-(intOf IC).toNat)
  case atStart=>exact⟨0,by omega,rfl,HO.out,HU.out⟩
  case round=>
   clear HO HU;obtain⟨j,hj,rfl,ho,hu⟩:=hrel;have HU:=aa hu;have hsz:=hu.size;have e0:=(hu.cell (p:=⟨ab,0,none⟩) hab).trans g0;have e1:=(hu.cell (p:=⟨ab,1,none⟩) hab).trans g1;haveI:af ab wr:=af.of (Nat.lt_of_lt_of_le hab hsz);clear hu;rcases(show j=0\/j=1\/j=2 by omega)with rfl|rfl|rfl
   ·have HO:=aa ho;obtain⟨A1,c1,rfl,_⟩:=aL ho;clear ho;go_wp2_with (at_builtin;refine gy rfl _ _ rfl w.1.size _ 0 [] rfl HO.out A f.length c f rfl HA.out (H.out.ai HU.out) rfl (by omega) hsz ?_);intro v' w4 l5 hg4;have HE:=aa (show Ef w f g v' (UM US 1) w4 from⟨1,by omega,rfl,by simpa using l5,HU.out.grown hg4 (λx hx=>aG HO.out x hx)⟩);clear l5 hg4;go_wp2;exact⟨HE.out,by simp[intOf]⟩
   ·have dX:wr.ownsRow w.1.size 36 3 _ f.length (av f):=ho;have HO:=aa dX;obtain⟨A1,c1,rfl,_⟩:=aL dX;clear ho dX;go_wp2_with (at_builtin;refine gy rfl _ _ rfl w.1.size _ f.length f rfl HO.out B g.length d g rfl HB.out (H'.out.ai HU.out) rfl (by omega) hsz ?_);intro v' w4 l5 hg4;have HE:=aa (show Ef w f g v' (UM US 2) w4 from⟨2,by omega,rfl,l5,HU.out.grown hg4 (λx hx=>aG HO.out x hx)⟩);clear l5 hg4;go_wp2;exact⟨HE.out,by simp[intOf]⟩
   have dX:wr.ownsRow w.1.size 36 3 _ (f.length+g.length) (av (f++g)):=ho;have HO:=aa dX;obtain⟨A1,c1,rfl,_⟩:=aL dX;clear ho dX;go_wp2;go_ret;exact⟨_,rfl,by rw[List.length_append];exact HO.out,HU.out⟩
set_option maxRecDepth 100000 in
theorem uv(A B:Option Addr)(n c m d:Nat)(f g:List St.It)(w:UY)(hn:f.length=n)(hm:g.length=m)(hA:A=none->n=0/\c=0)(hB:B=none->m=0/\d=0)(h:aO w A f)(h':aO w B g)(hl:n+m<=100000)(ht:bc (f++g)<=1000000000000) :
  Calls Tryz.prog 98 #[UO A n c,UO B m d] w λe w'=>∃v,e=UU v/\w'.ownsRow w.1.size 36 3 v (St.bH (f++g)).length (av (St.bH (f++g)))/\ac w w':=by
 have hsc:=λ(W:UY) (ab:Nat) (hW:ac w W) (hab:ab<W.1.size) (g0:W.cell? ⟨ab,0,none⟩=some (UO A n c)) (g1:W.cell? ⟨ab,1,none⟩=some (UO B m d))=>KH A B n c m d f g ab W hn hm hA hB (h.ai hW) (h'.ai hW) hab g0 g1 hl
 have hlen:(f++g).length<=1000000:=by rw[List.length_append];omega
 have hno:=λ(A:Option Addr) (c:Nat) (W:UY) (h:aO W A (f++g))=>yy A (f++g).length c (f++g) W rfl h hlen ht
 generalize f++g=F at hsc hno |-;have SE:=aa hsc;have HN:=aa hno;clear h h' hsc hno hA hB hlen ht hl;go_enter Tryz.func98,Tryz.ntmps98;go_wp2_with fail;refine(SE.out _ _ uZ (by simp) (by simp) (by simp)).mono ?_;rintro e w2 ⟨v,rfl,ho,hu⟩;obtain⟨AO,cO,rfl,_⟩:=aL ho;have hno:=HN.out AO cO w2 (aX ho rfl);have kl:=aa hno;have HU:=aa (show ac w w2 from ac.trans (uZ) hu);clear hno ho hu;go_wp2_with fail;refine kl.out.mono ?_;rintro e w3 ⟨v3,rfl,bN,hu3⟩;have HE:=aa (And.intro (dy bN HU.out.size) (HU.out.trans hu3));clear bN hu3;go_wp2;go_ret;exact⟨_,rfl,HE.out.1,HE.out.2⟩
end
section
theorem M2(a b:Nat)(f:List St.It)(k:Nat)(h:k<f.length):St.br a b 0 (f.take (k+1))=St.br a b 0 (f.take k)++St.br a b (St.ay (f.take k)) [f[k]]:=by
 rw[List.take_add_one,List.getElem?_eq_getElem h];have:=St.tT a b (f.take k) f[k] 0
 rw[Nat.zero_add]at this;exact this
theorem Cg(a b:Nat)(f:List St.It):∀at',(St.br a b at' f).length<=f.length:=by
 induction f with
 | nil=>intro at';simp[St.br]
 | cons x f ih=>
  intro at';rw[St.br,List.length_append];have:=ih (at'+St.a7 x)
  have h1:(if x.1=1 then(if max a at' - at'<min b (at'+x.2.1.length)-at' then[((1:Int),(x.2.1.take (min b (at'+x.2.1.length)-at')).drop (max a at' - at'),x.2.2)]else[])else(if a<=at'/\at'<b then[x]else[])).length<=1:=by
   repeat' split
   all_goals simp
  simp only[List.length_cons];omega
theorem My(f:List St.It)(k:Nat)(h:k<f.length):St.ay (f.take (k+1))=St.ay (f.take k)+St.a7 f[k]:=by
 rw[List.take_add_one,List.getElem?_eq_getElem h];exact St.jN _ _
theorem Ft(f:List St.It)(k:Nat):St.ay (f.take k)<=St.ay f:=by
 have e:St.ay f=St.ay (f.take k)+St.ay (f.drop k):=by
  conv=>lhs;rw[<-List.take_append_drop k f]
  unfold St.ay;rw[List.map_append,List.sum_append]
 omega
theorem OV(a b m:Nat)(kd id:Int)(tx:List UInt8){lo hi:Nat}(h1:lo=max a m)(h2:hi=min b (m+St.a7 (kd,tx,id))) :
  St.br a b m [(kd,tx,id)]=if lo<hi then(if kd=1 then[(1,(tx.take (hi-m)).drop (lo-m),id)]else[(kd,tx,id)])else[]:=by
 unfold St.br St.br St.a7 at *;simp only[List.append_nil]at *
 by_cases hk:kd=1
 ·rw[if_pos hk]at h2;simp only[if_pos hk,<-h1,<-h2]
  by_cases hl:lo<hi
  ·rw[if_pos (by omega),if_pos hl]
  rw[if_neg (by omega),if_neg hl]
 rw[if_neg hk]at h2;simp only[if_neg hk]
 by_cases hl:lo<hi
 ·rw[if_pos (by omega),if_pos hl]
 rw[if_neg (by omega),if_neg hl]
def zG(w:UY)(a b:Nat)(f:List St.It)(n:Nat)(s8 s9 IE:Value)(wr:UY):Prop:=
 ∃k:Nat,k<=n/\IE=UM US k/\s9=UM US (St.ay (f.take k):Nat)/\wr.ownsRow w.1.size 36 3 s8 (St.br a b 0 (f.take k)).length (av (St.br a b 0 (f.take k)))/\ac w wr
theorem Fk(A:Option Addr)(n c:Nat)(f:List St.It)(a b:Nat)(w:UY)(hn:f.length=n)(h:aO w A f)(hl:n<=100000)(ht:bc f<=1000000000000)(hab:a<=b)(hbl:b<=St.ay f) :
  Calls Tryz.prog 97 #[UO A n c,UM US a,UM US b] w λe w'=>∃v,e=UU (UR #[v,UP true])/\w'.ownsRow w.1.size 36 3 v (St.br a b 0 f).length (av (St.br a b 0 f))/\ac w w':=by
 have H:=aa h;have HN:=aa hn;have hle:=aa (kx A n c f w hn h (by omega) (by omega));have zY:=aa (show St.ay f<=2000000000000 by have:=jb f;omega);obtain⟨i0,hi,hz0,hz1,hz2⟩:=info_parts dw;have y1:¬(a:Int)<0:=by omega
 have y2:¬(b:Int)<(a:Int):=by omega
 have y3:¬((St.ay f:Nat):Int)<(b:Int):=by omega
 have y4:¬St.ay f<b:=by omega
 clear h hn;go_enter Tryz.func97,Tryz.ntmps97;go_wp2_with fail;refine hle.out.mono ?_;rintro e w1 ⟨rfl,hu1⟩;have ij:=aa hu1;clear hu1 hle;go_wp2_with fail;go_loopw [8,9,30] (λs8 s9 IE wr=>zG w a b f n s8 s9 IE wr) (λ_ _ IE _=>n+1-(intOf IE).toNat)
 case atStart=>exact⟨0,by omega,rfl,rfl,World.ownsRow_nil _ _ _ _,ij.out⟩
 case round=>
  obtain⟨k,hk,rfl,rfl,hown,hu⟩:=hrel;have HU:=aa hu;have HO:=aa hown;have hsz:=hu.size;clear hu y1 y2 y3 y4;have hN:=HN.out
  by_cases hlt:k<n
  ·clear hown;have aS:k<f.length:=by omega
   obtain⟨g,off,rfl,hg,hc⟩:=(H.out.ai HU.out) (by omega);obtain⟨c0,c1,c2⟩:=hc k aS;have hst:=M2 a b f k aS;have hlk:=My f k aS;have fM:=Ft f (k+1);have hsl:=Cg a b (f.take k) 0;have SZ:=zY.out;have hx1:=I5 f k aS;have hx2:=tc f (k+1);generalize f[k]=x at c0 c1 c2 hst hlk hx1;obtain⟨kd,tx,id⟩:=x;simp only at c0 c1 c2 hx1;generalize hO:St.br a b 0 (f.take k)=O at HO hst hsl;obtain⟨A8,c8,rfl,_,_,hA8⟩:=aT HO.out;have NZ:O.length<=100000:=by simp at hsl;omega
   have htl:(⟨tx.toArray⟩:ByteArray).size=tx.length:=by show tx.toArray.size=_;simp
   obtain⟨m,hm⟩:∃m,m=St.ay (f.take k):=⟨_,rfl⟩;rw[<-hm]at hlk hst |-;obtain⟨lo,hlo⟩:∃lo,lo=max a m:=⟨_,rfl⟩;obtain⟨hi',hhi⟩:∃hi',hi'=min b (m+St.a7 (kd,tx,id)):=⟨_,rfl⟩;rw[OV a b m kd id tx hlo hhi]at hst;have hwd:=aa (λW=>vM kd tx id W);have hwt:kd=1->St.a7 (kd,tx,id)=tx.length:=λe=>by unfold St.a7;rw[if_pos e]
   have hw1:St.a7 (kd,tx,id)<=tx.length+1:=by unfold St.a7;split<;>simp<;>omega
   generalize St.a7 (kd,tx,id)=wd at hwd hlk hhi hwt hw1;obtain⟨N,hNN⟩:∃N,N=m+wd:=⟨_,rfl⟩;have eN:(m:Int)+(wd:Int)=(N:Int):=by omega
   have Ol:St.ay (f.take (k+1))=N:=by omega
   have lx:Hid (∀W v,W.ownsRow w.1.size 36 3 v (St.br a b 0 (f.take (k+1))).length (av (St.br a b 0 (f.take (k+1))))->ac w W->zG w a b f n v (UM US (N:Int)) (UM US ((k:Int)+1)) W):=
    aa λW v h1 h2=>⟨k+1,by omega,congrArg (UM US) (by omega),by rw[Ol],h1,h2⟩
   haveI:af g wr:=af.of hg;rw[<-hNN]at hhi;have hNb:N<=2000000000000:=by omega
   have HST:=aa hst;have SO:=aa hwt;have Ue:max (a:Int) (m:Int)=(lo:Int):=by omega
   have Ud:min (b:Int) (N:Int)=(hi':Int):=by omega
   clear hc aS hst Ol hlk hwt hm hNN;go_wp2_with fail;refine(hwd.out _).mono ?_;rintro e w3 ⟨rfl,hu3⟩;have cE:ac wr w3:=ac.trans (uZ) hu3;have hb3:=(hu3.below.block wr.1.size (by simp)).trans (heap_alloc_new wr (.cells #[UM US kd,UN ⟨tx.toArray⟩,UM US id] 36));have d0:w3.cell? ⟨wr.1.size,0,none⟩=some (UM US kd):=ak hb3 0;have d1:w3.cell? ⟨wr.1.size,1,none⟩=some (UN ⟨tx.toArray⟩):=ak hb3 1;have d2:w3.cell? ⟨wr.1.size,2,none⟩=some (UM US id):=ak hb3 2;have f1:w3.frozen? ⟨wr.1.size,1,none⟩=false:=bk hb3 1;haveI:af wr.1.size w3:=af.of (ae hb3);have bm:=aa (HU.out.trans cE);have fi:=aa (aE cE HO.out);have tI:=aa hb3;have OC:=bm.out.size;clear hu3 cE hb3 c0 c1 c2 hwd;generalize dL:wr.1.size=bx at *;have R2:w.1.size<=bx:=by omega
   have kN:∀v,ac w (w3.setCell ⟨bx,1,none⟩ v):=λv=>ac.mk (bm.out.below.setCell R2 v)
   have qS:∀v,(w3.setCell ⟨bx,1,none⟩ v).ownsRow w.1.size 36 3 (UO A8 O.length c8) O.length (av O):=λv=>aA fi.out (λe=>by have:=(HO.out.lt _ e).2;omega)
   by_cases hll:lo<hi'
   ·have HS:=HST.out;rw[if_pos hll]at HS;have zl:(lo:Int)<(hi':Int):=by omega
    by_cases du:kd=1
    ·subst du;rw[if_pos rfl]at HS;have Tj:=SO.out rfl;obtain⟨p,hp⟩:∃p,p=lo-m:=⟨_,rfl⟩;obtain⟨q,hq⟩:∃q,q=hi' - m:=⟨_,rfl⟩;rw[<-hp,<-hq]at HS;have e1:(lo:Int)-(m:Int)=(p:Int):=by omega
     have e2:(hi':Int)-(m:Int)=(q:Int):=by omega
     have z2:(0:Int)<=(p:Int):=by omega
     have z3:(p:Int)<=(q:Int):=by omega
     have z4:(q:Int)<=(tx.length:Int):=by omega
     obtain⟨sx,hsx⟩:∃sx:ByteArray,(⟨tx.toArray⟩:ByteArray).extract p q=sx:=⟨_,rfl⟩;have hsl:(tx.take q).drop p=sx.1.1:=by rw[<-hsx,Lib.extract_data,List.drop_take]
     rw[hsl]at HS;have cU:=aa HS;have T0:(⟨tx.toArray⟩:ByteArray).extract (max a m-m) (min b N-m)=sx:=by rw[<-hlo,<-hhi,<-hp,<-hq];exact hsx
     have hfin:∀v' w4,w4.ownsRow w.1.size 36 3 v' (O.length+1) (av O++[UM US 1,UN sx,UM US id])->ac w w4->zG w a b f n v' (UM US (N:Int)) (UM US ((k:Int)+1)) w4:=λv' w4 h1 h2=>
      lx.out w4 v' (by rw[cU.out,bE,List.length_append,List.length_singleton,be];exact h1) h2
     have dr:=aa hfin;have Af:=aa (And.intro kN qS);clear hfin HS hsl kN qS cU Tj hp hq;go_wp2_with (at_builtin;refine wpList_append_own _ rfl _ _ 37 rfl w.1.size 36 i0 (.agg #[.int .i64 0,.string ⟨#[]⟩,.int .i64 0]) 3 32 Tryz.underlying37 hi hz0 hz1 hz2 rfl (by decide) (.slice A8 O.length c8) O.length _ rfl ((Af.out.2 _).alloc _) _ 1 1 [.int .i64 1,.string sx,.int .i64 id] rfl rfl ?_ (cN _ _ _) (by unfold maxLen;omega) (by omega) ?_ ?_)
     all_goals try exact eA _ _ _ _ _ _ (by first|rfl|(simp;done))
     all_goals try (simp;omega;done)
     intro v' w4 hown' hgrow _;have HE:=aa (dr.out v' w4 hown' (((Af.out.1 _).alloc _).grown hgrow (λg hg=>aG fi.out g hg)));clear hown' hgrow;go_wp2;exact⟨HE.out,by simp[intOf];omega⟩
    rw[if_neg du]at HS;have q1:(kd==1)=false:=by simpa using du
    have cU:=aa HS
    have hfin:∀v' w4,w4.ownsRow w.1.size 36 3 v' (O.length+1) (av O++[UM US kd,UN ⟨tx.toArray⟩,UM US id])->ac w w4->zG w a b f n v' (UM US (N:Int)) (UM US ((k:Int)+1)) w4:=λv' w4 h1 h2=>
     lx.out w4 v' (by rw[cU.out,bE,List.length_append,List.length_singleton];exact h1) h2
    have dr:=aa hfin;clear hfin HS kN qS cU du;go_wp2_with (at_builtin;refine wpList_append_own _ rfl _ _ 37 rfl w.1.size 36 i0 (.agg #[.int .i64 0,.string ⟨#[]⟩,.int .i64 0]) 3 32 Tryz.underlying37 hi hz0 hz1 hz2 rfl (by decide) (.slice A8 O.length c8) O.length _ rfl (fi.out.alloc _) _ 1 1 [.int .i64 kd,.string ⟨tx.toArray⟩,.int .i64 id] rfl rfl ?_ (cN _ _ _) (by unfold maxLen;omega) (by omega) ?_ ?_)
    all_goals try exact eA _ _ _ _ _ _ (by first|rfl|(simp;done))
    all_goals try (simp;omega;done)
    intro v' w4 hown' hgrow _;have HE:=aa (dr.out v' w4 hown' ((bm.out.alloc _).grown hgrow (λg hg=>aG fi.out g hg)));clear hown' hgrow;go_wp2;exact⟨HE.out,by simp[intOf];omega⟩
   have HS:=HST.out;rw[if_neg hll,List.append_nil]at HS;have zl:¬(lo:Int)<(hi':Int):=by omega
   have dr:=aa (lx.out w3 (UO A8 O.length c8) (by rw[HS];exact fi.out) bm.out);clear HS kN qS hlo hhi;go_wp2;exact⟨dr.out,by simp[intOf];omega⟩
  have hkn:k=n:=by omega
  subst hkn;have hft:f.take k=f:=List.take_of_length_le (by omega);rw[hft]at hown;have lr:=aa hown;clear hlt hft hown HO;go_wp2;go_ret2;exact⟨_,rfl,lr.out,HU.out⟩
end
section
theorem Ca(A B:Option Addr)(n m c d:Nat)(f g:List St.It)(w:UY)(hn:f.length=n)(hm:g.length=m)(hc:n<=c)(hd:m<=d)(dz:c<=9223372036854775807)(fZ:d<=9223372036854775807)(hA:aO w A f)(hB:aO w B g) :
  Calls Tryz.prog 93 #[UO A n c,UO B m d] w λe w'=>e=UU (UP (decide (f=g)))/\ac w w':=by
 by_cases a8:n=m
 ·subst a8;have HA:=aa hA;have HB:=aa hB;have HN:=aa hn;have HM:=aa hm;clear hA hB hn hm;go_enter Tryz.func93,Tryz.ntmps93;go_wp2;go_loopw [13] (λi wr=>Lo w f g n i wr) (λi _=>n+1-(intOf i).toNat)
  case atStart=>exact⟨0,by omega,rfl,rfl,ac.refl _⟩
  case round=>
   obtain⟨k,hk,rfl,hs,hu⟩:=hrel;have HU:=aa hu;have HS:=aa hs;clear hu hs
   by_cases hlt:k<n
   ·have hk1:k<f.length:=by rw[HN.out];exact hlt
    have hk2:k<g.length:=by rw[HM.out];exact hlt
    obtain⟨b,o,rfl,hb,hc1⟩:=(HA.out.ai HU.out) (by omega);obtain⟨b',o',rfl,hb',hc2⟩:=(HB.out.ai HU.out) (by omega);obtain⟨h1,h2,h3⟩:=hc1 k hk1;obtain⟨h1',h2',h3'⟩:=hc2 k hk2;have hst:=aa (λe=>yT HS.out hk1 hk2 e);have hne:f[k]≠g[k]->f≠g:=λh e=>h (by subst e;rfl)
    have lq:=aa hne;generalize f[k]=x at h1 h2 h3 hst lq;generalize g[k]=y at h1' h2' h3' hst lq;obtain⟨xk,xt,xi⟩:=x;obtain⟨yk,yt,yi⟩:=y;simp only at h1 h2 h3 h1' h2' h3';haveI:af b wr:=af.of hb;haveI:af b' wr:=af.of hb';clear hc1 hc2 hk1 hk2 hne;cases he:NN (xk,xt,xi) (yk,yt,yi)
    ·have hF:=aa (lq.out (of_decide_eq_false he));go_wp2_with fail;go_quiet (fail);go_wp2;go_ret;refine⟨aD (decide_eq_false hF.out).symm,uZ⟩
    have hF:=aa (hst.out (of_decide_eq_true he));go_wp2_with fail;go_quiet (fail);go_wp2;refine⟨⟨k+1,by omega,rfl,hF.out,HU.out.trans uZ⟩,by simp[intOf];omega⟩
   obtain rfl:k=n:=by omega
   have hF:=aa (B7 HS.out HN.out HM.out);clear hlt;go_wp2;go_ret;exact⟨aD (decide_eq_true hF.out).symm,HU.out⟩
 have hF:=aa (show ¬f=g from λe=>a8 (by rw[<-hn,<-hm,e]));have z:((n:Int)==(m:Int))=false:=by simp;omega
 clear hA hB hn hm;go_enter Tryz.func93,Tryz.ntmps93;go_wp2;go_ret;exact⟨aD (decide_eq_false hF.out).symm,ac.refl _⟩
theorem Cb(A B:Option Addr)(n m c d:Nat)(f g:List St.Pt)(w:UY)(hn:f.length=n)(hm:g.length=m)(hc:n<=c)(hd:m<=d)(dz:c<=9223372036854775807)(fZ:d<=9223372036854775807)(hA:bn w A f)(hB:bn w B g) :
  Calls Tryz.prog 62 #[UO A n c,UO B m d] w λe w'=>e=UU (UP (decide (f=g)))/\ac w w':=by
 by_cases a8:n=m
 ·subst a8;have HA:=aa hA;have HB:=aa hB;have HN:=aa hn;have HM:=aa hm;clear hA hB hn hm;go_enter Tryz.func62,Tryz.ntmps62;go_wp2;go_loopw [13] (λi wr=>Lo w f g n i wr) (λi _=>n+1-(intOf i).toNat)
  case atStart=>exact⟨0,by omega,rfl,rfl,ac.refl _⟩
  case round=>
   obtain⟨k,hk,rfl,hs,hu⟩:=hrel;have HU:=aa hu;have HS:=aa hs;clear hu hs
   by_cases hlt:k<n
   ·have hk1:k<f.length:=by rw[HN.out];exact hlt
    have hk2:k<g.length:=by rw[HM.out];exact hlt
    obtain⟨b,o,rfl,hb,hc1⟩:=(HA.out.ai HU.out) (by omega);obtain⟨b',o',rfl,hb',hc2⟩:=(HB.out.ai HU.out) (by omega);obtain⟨h1,h2,h3⟩:=hc1 k hk1;obtain⟨h1',h2',h3'⟩:=hc2 k hk2;have hst:=aa (λe=>yT HS.out hk1 hk2 e);have hne:f[k]≠g[k]->f≠g:=λh e=>h (by subst e;rfl)
    have lq:=aa hne;generalize f[k]=x at h1 h2 h3 hst lq;generalize g[k]=y at h1' h2' h3' hst lq;obtain⟨xk,xt,xi⟩:=x;obtain⟨yk,yt,yi⟩:=y;simp only at h1 h2 h3 h1' h2' h3';haveI:af b wr:=af.of hb;haveI:af b' wr:=af.of hb';clear hc1 hc2 hk1 hk2 hne;cases he:NO (xk,xt,xi) (yk,yt,yi)
    ·have hF:=aa (lq.out (of_decide_eq_false he));go_wp2_with fail;go_quiet (fail);go_wp2;go_ret;refine⟨aD (decide_eq_false hF.out).symm,uZ⟩
    have hF:=aa (hst.out (of_decide_eq_true he));go_wp2_with fail;go_quiet (fail);go_wp2;refine⟨⟨k+1,by omega,rfl,hF.out,HU.out.trans uZ⟩,by simp[intOf];omega⟩
   obtain rfl:k=n:=by omega
   have hF:=aa (B7 HS.out HN.out HM.out);clear hlt;go_wp2;go_ret;exact⟨aD (decide_eq_true hF.out).symm,HU.out⟩
 have hF:=aa (show ¬f=g from λe=>a8 (by rw[<-hn,<-hm,e]));have z:((n:Int)==(m:Int))=false:=by simp;omega
 clear hA hB hn hm;go_enter Tryz.func62,Tryz.ntmps62;go_wp2;go_ret;exact⟨aD (decide_eq_false hF.out).symm,ac.refl _⟩
theorem H9(A B:Option Addr)(n m c d:Nat)(f g:List St.It)(w:UY)(hn:f.length=n)(hm:g.length=m)(hc:n<=c)(hd:m<=d)(dz:c<=9223372036854775807)(fZ:d<=9223372036854775807)(h:aO w A f)(h':aO w B g) :
  Calls Tryz.prog 52 #[UO A n c,UO B m d] w λe w'=>e=UU (UP (decide (f=g)))/\ac w w':=by
 have HS:=aa (Ca A B n m c d f g w hn hm hc hd dz fZ h h');clear h h';go_enter Tryz.func52,Tryz.ntmps52;go_wp2_with fail;refine HS.out.mono ?_;rintro e w' ⟨rfl,hu⟩;have HU:=aa hu;clear hu;go_wp2;go_ret;exact⟨rfl,HU.out⟩
end
end Go.Proofs.YthoemdibbldndaaGreatDoor
namespace Go.Proofs.YthoemdibbldndaaGreatDoor.Mz
open Go.RowKit
def rK:Nat->List (Int × Value)->List MapEntry
 | _,[]=>[]
 | n,p :: l=>{ key:=UM US p.1,val:=p.2,born:=n } :: rK (n+1) l
theorem AF(p:Int × Value):∀(l:List (Int × Value)) (n:Nat),rK n (l++[p])=rK n l++[{ key:=UM US p.1,val:=p.2,born:=n+l.length }]
 | [],n=>by simp[rK]
 | q :: l,n=>by
  simp only[List.cons_append,rK,AF p l (n+1),List.length_cons];rw[show n+1+l.length=n+(l.length+1)by omega]
def look(k:Int):List (Int × Value)->Option Value
 | []=>none
 | p :: l=>if k=p.1 then some p.2 else look k l
theorem Ie(k:Int)(p:Int × Value)(l:List (Int × Value)):look k (l++[p])=match look k l with
  | some v=>some v
  | none=>if k=p.1 then some p.2 else none:=by
 induction l with
 | nil=>rfl
 | cons q l ih=>
  rw[List.cons_append,look,look]
  split
  ·rfl
  exact ih
theorem yz(k:Int)(l:List Int):look k (l.map λi=>(i,UP true))=if k∈l then some (UP true)else none:=by
 induction l with
 | nil=>rfl
 | cons i l ih=>
  rw[List.map_cons,look]
  by_cases h:k=i
  ·rw[if_pos h,if_pos (by simp[h])]
  rw[if_neg h,ih];simp[h]
theorem sk(k:Int):∀(l:List (Int × Value)) (n i:Nat),look k l=none->Instr.findNow (.int .i64) (.int .i64 k) (rK n l) i=some none
 | [],n,i,_=>rfl
 | p :: l,n,i,h=>by
  unfold look at h
  by_cases e:k=p.1
  ·rw[if_pos e]at h;simp at h
  rw[if_neg e]at h;have e':(k==p.1)=false:=by simpa using e
  simp only[rK,Instr.findNow,Instr.sameNow,if_true,e'];exact sk k l _ _ h
theorem x7(k:Int)(v:Value):∀(l:List (Int × Value)) (n i:Nat),look k l=some v->∃j,Instr.findNow (.int .i64) (.int .i64 k) (rK n l) i=some (some (j,v))
 | [],n,i,h=>by simp[look]at h
 | p :: l,n,i,h=>by
  unfold look at h
  by_cases e:k=p.1
  ·rw[if_pos e]at h;obtain rfl:p.2=v:=by simpa using h
   have e':(k==p.1)=true:=by simpa using e
   exact⟨i,by simp only[rK,Instr.findNow,Instr.sameNow,if_true,e']⟩
  rw[if_neg e]at h;have e':(k==p.1)=false:=by simpa using e
  obtain⟨j,hj⟩:=x7 k v l (n+1) (i+1) h;exact⟨j,by simp only[rK,Instr.findNow,Instr.sameNow,if_true,e'];exact hj⟩
def At(w:UY)(mb:Nat)(l:List (Int × Value)):Prop:=w.1[mb]?=some (.map (rK 0 l).toArray l.length)
def put(w:UY)(mb:Nat)(l:List (Int × Value)):UY:={ w with heap:=w.heap.setIfInBounds mb (.map (rK 0 l).toArray l.length) }
theorem At.lt{w:UY}{mb:Nat}{l:List (Int × Value)}(h:At w mb l):mb<w.1.size:=ae h
theorem At.ai{a c:UY}{mb:Nat}{l:List (Int × Value)}(h:At a mb l)(u:ac a c):At c mb l:=(u.below.block mb h.lt).trans h
theorem BO(w:UY){mb b:Nat}(l:List (Int × Value))(h:b≠mb):(put w mb l).1[b]?=w.1[b]?:=by
 show(w.heap.setIfInBounds mb _)[b]?=_
 rw[Array.getElem?_setIfInBounds_ne (Ne.symm h)]
theorem Iu{w:UY}{mb:Nat}{l0:List (Int × Value)}(h:At w mb l0)(l:List (Int × Value)):At (put w mb l) mb l:=by
 show(w.heap.setIfInBounds mb _)[mb]?=_
 have:=h.lt
 simp[this]
theorem Ku(w:UY)(mb:Nat)(l:List (Int × Value)):(put w mb l).1.size=w.1.size:=by
 show(w.heap.setIfInBounds mb _).size=_;simp
theorem DR{w W:UY}{mb:Nat}(l:List (Int × Value))(h:ac w W)(hb:w.1.size<=mb):ac w (put W mb l):=by
 have b:=h.below;exact ac.mk ⟨b.os,b.tape,b.output,by rw[Ku];exact b.size,λk hk=>(BO W l (by omega)).trans (b.block k hk)⟩
theorem MJ{W:UY}{mb B e size n:Nat}{v:Value}{xs:List Value}{l0:List (Int × Value)}(l:List (Int × Value))(h:W.ownsRow B e size v n xs)(ha:At W mb l0):(put W mb l).ownsRow B e size v n xs:=by
 refine⟨h.1,?_⟩;rcases h.2 with h0|⟨g,cap,cur,rfl,hb,hg,hr⟩
 ·exact .inl h0
 refine .inr ⟨g,cap,cur,rfl,hb,(BO W l λe=>?_).trans hg,hr⟩;subst e;rw[ha]at hg;cases hg
theorem ul{w w':UY}{mb B e size n:Nat}{v:Value}{xs:List Value}{l:List (Int × Value)}(h:At w mb l)(hg:w.grownBy w' v.ownBlock)(ho:w.ownsRow B e size v n xs):At w' mb l:=by
 refine(hg.block mb h.lt λe=>?_).trans h;rcases ho.2 with⟨rfl,_⟩|⟨g,cap,cur,rfl,_,hgb,_⟩
 ·simp[Value.ownBlock]at e
 simp only[Value.ownBlock,Option.some.injEq]at e;subst e;rw[h]at hgb;cases hgb
section
variable {T et:TypeId} (hm:Tryz.prog.underlying T=some (.map 3 et))
include hm
theorem DY{w:UY}{mb:Nat}{l:List (Int × Value)}{k:Int}(v:Value)(ha:At w mb l)(h:look k l=none) :
  (Instr.mapUpdate T (.map (some mb)) (UM US k) v).run Tryz.prog w=.ok () (put w mb (l++[(k,v)])):=by
 have hd:Tryz.prog.underlying 3=some (.int .i64):=by kernel_rfl
 have hf:=sk k l 0 0 h;have hk:MapKept.IsKey (.int .i64) (.int .i64 k):=by simp[MapKept.IsKey]
 simp[Instr.mapUpdate,run_underlying hm,MapKept.run_getObj_map ha,MapKept.run_checkKey hd hk,MapKept.run_findKey hd hf,MapKept.run_setObj_map _ ha,Result.andThen];simp[put,AF]
theorem run_get{w:UY}{mb:Nat}{l:List (Int × Value)}{k:Int}{v:Value}(ok:Bool)(ha:At w mb l)(h:look k l=some v) :
  (Instr.lookup T (.map (some mb)) (UM US k) ok).run Tryz.prog w=.ok (if ok then UR #[v,UP true]else v) w:=by
 have hd:Tryz.prog.underlying 3=some (.int .i64):=by kernel_rfl
 obtain⟨j,hf⟩:=x7 k v l 0 0 h;have hk:MapKept.IsKey (.int .i64) (.int .i64 k):=by simp[MapKept.IsKey]
 cases ok<;>simp[Instr.lookup,run_underlying hm,MapKept.run_getObj_map ha,MapKept.run_checkKey hd hk,MapKept.run_findKey hd hf,Result.andThen]
theorem IB{w:UY}{mb:Nat}{l:List (Int × Value)}{k:Int}{z:Value}(ok:Bool)(hz:(zeroValue et).run Tryz.prog w=.ok z w)(ha:At w mb l)(h:look k l=none) :
  (Instr.lookup T (.map (some mb)) (UM US k) ok).run Tryz.prog w=.ok (if ok then UR #[z,UP false]else z) w:=by
 have hd:Tryz.prog.underlying 3=some (.int .i64):=by kernel_rfl
 have hf:=sk k l 0 0 h;have hk:MapKept.IsKey (.int .i64) (.int .i64 k):=by simp[MapKept.IsKey]
 cases ok<;>simp[Instr.lookup,run_underlying hm,MapKept.run_getObj_map ha,MapKept.run_checkKey hd hk,MapKept.run_findKey hd hf,hz,Result.andThen]
end
end Go.Proofs.YthoemdibbldndaaGreatDoor.Mz
namespace Go.Proofs.YthoemdibbldndaaGreatDoor
open Go.RowKit
section
def zc(l:List Int):List Value:=l.map (UM US)
theorem Nb(l:List Int)(i:Int):zc (l++[i])=zc l++[UM US i]:=by simp[zc]
theorem O4{w:UY}{B n c:Nat}{A:Option Addr}{zs:List Int}(h:w.ownsRow B 3 1 (UO A n c) n (zc zs))(hn:zs.length=n):iv w A zs:=by
 intro h0;obtain⟨g,rfl,_,hg,hc⟩:=fg h (by omega);refine⟨g,0,rfl,hg,λi hi=>?_⟩;rw[Nat.zero_add];exact hc i _ (by unfold zc;rw[List.getElem?_map,List.getElem?_eq_getElem hi];simp[List.getD_eq_getElem?_getD,hi])
theorem OH(f:List St.It)(k:Nat)(h:k<f.length):(f.take (k+1)).foldl St.dR []=St.dR ((f.take k).foldl St.dR []) f[k]:=by
 rw[List.take_add_one,List.getElem?_eq_getElem h,List.foldl_append];rfl
def Lm(w:UY)(f:List St.It)(n mb:Nat)(s3 dZ:Value)(wr:UY):Prop:=
 ∃(k:Nat) (l:List Int),k<=n/\dZ=UM US k/\l=(f.take k).foldl St.dR []/\l.length<=k/\wr.ownsRow w.1.size 3 1 s3 l.length (zc l)/\Mz.At wr mb (l.map λi=>(i,UP true))/\ac w wr
theorem Kb(A:Option Addr)(n c:Nat)(f:List St.It)(w:UY)(hn:f.length=n)(h:aO w A f)(hl:n<=100000) :
  Calls Tryz.prog 94 #[UO A n c] w λe w'=>∃v,e=UU v/\(St.jQ f).length<=n/\w'.ownsRow w.1.size 3 1 v (St.jQ f).length (zc (St.jQ f))/\ac w w':=by
 have H:=aa h;have HN:=aa hn;obtain⟨ii,ki,kz0,kz1,kz2⟩:=info_parts gv;have hm:Tryz.prog.underlying 183=some (.map 3 4):=by kernel_rfl
 have hmk:∀W:UY,(Instr.makeMap 183 none).run Tryz.prog W=.ok (.map (some W.1.size)) (W.alloc (.map #[] 0)):=λW=>rfl
 have C1:=aa hm;have hzb:=aa (λW:UY=>(show(zeroValue 4).run Tryz.prog W=.ok (UP false) W by go_simp));clear h hn hm;go_enter Tryz.func94,Tryz.ntmps94;go_wp2_with fail;go_loopw [3,10] (λs3 dZ wr=>Lm w f n w.1.size s3 dZ wr) (λ_ dZ _=>n+1-(intOf dZ).toNat)
 case atStart=>exact⟨0,[],by omega,rfl,rfl,by simp,World.ownsRow_nil _ _ _ _,heap_alloc_new w _,(ac.refl w).alloc _⟩
 case round=>
  obtain⟨k,l,hk,rfl,hle,hll,hown,hat,hu⟩:=hrel;have HU:=aa hu;have hsz:=hu.size;have HOW:=aa hown;have Ng:=aa hat;have Gg:=aa hle;have hN:=HN.out;obtain⟨AO,cO,rfl,_⟩:=aL hown;clear hu hle hown hat hmk
  by_cases hlt:k<n
  ·have aS:k<f.length:=by omega
   obtain⟨b,off,rfl,hb,hc⟩:=(H.out.ai HU.out) (by omega);obtain⟨c0,c1,c2⟩:=hc k aS;have hnt:=OH f k aS;rw[<-Gg.out]at hnt;generalize f[k]=x at c0 c1 c2 hnt;obtain⟨kd,tx,id⟩:=x;simp only at c0 c1 c2;have hit:=λt W=>qT kd t id W
   have np:=aa hnt;haveI:af b wr:=af.of hb;clear hc aS hnt;cases cV:St.aJ kd
   ·rw[cV]at hit;have HIT:=aa hit;have he:=aa (show St.dR l (kd,tx,id)=l by unfold St.dR;rw[if_neg (by simp[cV])]);clear hit cV;go_wp2_with fail;refine(HIT.out _ _).mono ?_;rintro e w3 ⟨rfl,hu3⟩;have bm:=aa (ac.trans (uZ) hu3:ac wr w3);clear hu3 c0 c1 c2;go_wp2;exact⟨⟨k+1,l,by omega,congrArg (UM US) (by omega),by rw[np.out,he.out],by omega,aE bm.out HOW.out,Ng.out.ai bm.out,HU.out.trans bm.out⟩,by simp[intOf];omega⟩
   rw[cV]at hit;have HIT:=aa hit;clear hit;go_wp2_with fail;refine(HIT.out _ _).mono ?_;rintro e w3 ⟨rfl,hu3⟩;have cE:ac wr w3:=ac.trans (uZ) hu3;have d2:w3.cell? ⟨wr.1.size,2,none⟩=some (UM US id):=(hu3.cell (p:=⟨wr.1.size,2,none⟩) (by simp)).trans (by simp);haveI:af wr.1.size w3:=af.of (cM _ _ d2);have qP:=Ng.out.ai cE;have Rc:=aa qP;have bm:=aa cE;have qA:=aa (aE cE HOW.out);have RN:=qP.lt;have T5:w.1.size<wr.1.size:=Ng.out.lt;clear hu3 cE c0 c1 c2
   by_cases hmem:id∈l
   ·have hlk:=Mz.run_get C1.out false qP (show Mz.look id _=some (UP true)by rw[Mz.yz,if_pos hmem]);simp only[Bool.false_eq_true,if_false]at hlk;have he:=aa (show St.dR l (kd,tx,id)=l by unfold St.dR;rw[if_neg (by rintro ⟨_,h⟩;exact h hmem)]);clear hmem cV qP;go_wp2;exact⟨⟨k+1,l,by omega,congrArg (UM US) (by omega),by rw[np.out,he.out],by omega,qA.out,Rc.out,HU.out.trans bm.out⟩,by simp[intOf];omega⟩
   have yp:Mz.look id (l.map λi=>(i,UP true))=none:=by rw[Mz.yz,if_neg hmem]
   have hlk:=Mz.IB C1.out false (hzb.out w3) qP yp;simp only[Bool.false_eq_true,if_false]at hlk;have hpt:=Mz.DY C1.out (UP true) qP yp;have he:=aa (show St.dR l (kd,tx,id)=l++[id]by unfold St.dR;rw[if_pos ⟨cV,hmem⟩]);have fj:(l.map λi=>(i,UP true))++[(id,UP true)]=(l++[id]).map λi=>(i,UP true):=by simp
   rw[fj]at hpt;obtain⟨w4,hw4⟩:∃w4,w4=Mz.put w3 w.1.size ((l++[id]).map λi=>(i,UP true)):=⟨_,rfl⟩;have a6:ac w w4:=by rw[hw4];exact Mz.DR _ (HU.out.trans bm.out) (Nat.le_refl _)
   have l5:w4.ownsRow w.1.size 3 1 (UO AO l.length cO) l.length (zc l):=by rw[hw4];exact Mz.MJ _ qA.out qP
   have N6:Mz.At w4 w.1.size ((l++[id]).map λi=>(i,UP true)):=by rw[hw4];exact Mz.Iu qP _
   have m2:w4.cell? ⟨wr.1.size,2,none⟩=some (.int .i64 id):=(World.cell?_of_block (a:=⟨wr.1.size,2,none⟩) (show w4.1[wr.1.size]?=w3.1[wr.1.size]? by rw[hw4];exact Mz.BO w3 _ (by omega))).trans d2;rw[<-hw4]at hpt;haveI:af wr.1.size w4:=af.of (cM _ _ m2);have fE:=aa a6;have iP:=aa l5;have Rd:=aa N6;have hs4:=a6.size;clear hmem cV qP yp fj hw4 a6 l5 N6;go_wp2_with (at_builtin;refine wpList_append_own _ rfl _ _ 42 rfl w.1.size 3 ii (.int .i64 0) 1 8 Tryz.underlying42 ki kz0 kz1 kz2 rfl (by decide) (.slice AO l.length cO) l.length (zc l) rfl (iP.out.alloc _) _ 1 1 [.int .i64 id] rfl rfl ?_ (by simp;rfl) (by unfold maxLen;omega) (by omega) ?_ ?_)
   ·exact gT _ _ _
   ·simp;omega
   intro v' w5 eY eX _;rw[<-Nb]at eY;have N7:=Mz.ul (Rd.out.ai ((ac.refl w4).alloc (.cells #[UM US id] 3))) eX (iP.out.alloc _);have bo:ac w w5:=(fE.out.alloc _).grown eX (λg hg=>aG iP.out g hg);have HE:=aa (show Lm w f n w.1.size v' (UM US ((k:Int)+1)) w5 from⟨k+1,l++[id],by omega,congrArg (UM US) (by omega),by rw[np.out,he.out],by simp;omega,by rw[List.length_append,List.length_singleton];exact eY,N7,bo⟩);clear eY eX bo N7;go_wp2;exact⟨HE.out,by simp[intOf];omega⟩
  have hkn:k=n:=by omega
  subst hkn;have hft:f.take k=f:=List.take_of_length_le (by omega);have hl2:l=St.jQ f:=by rw[Gg.out,hft];rfl
  subst hl2;clear hlt hft Gg;go_wp2;go_ret;exact⟨_,rfl,hll,HOW.out,HU.out⟩
end
section
theorem If(N:Nat)(hN:N<=1000000):∃cs:Array Value,(∀W:UY,(Instr.makeSlice 42 (UM US (N:Int)) (UM US (N:Int))).run Tryz.prog W=.ok (UO (some ⟨W.1.size,0,none⟩) N N) (W.alloc (.cells cs 3)))/\cs.size=N:=by
 obtain⟨i,hi,hz0,hz1,hz2⟩:=info_parts gv;refine⟨madeCells (Value.cells (UM US 0)) (N*i.size),λW=>?_,?_⟩
 ·have:=run_make (P:=Tryz.prog) W 42 3 i (.int .i64 0) Tryz.underlying42 hi hz0 .i64 .i64 (N:Int) (N:Int) (by omega) (by omega) (by rw[hz2];omega) (by omega)
  simpa using this
 rw[size_madeCells,hz1,Nat.mul_one]
def KY(w:UY)(n:Nat)(s9:Value)(wr:UY):Prop:=
 ∃(i:Nat) (cur:Array Value),s9=UM US i/\i<=n/\wr.1[w.1.size]?=some (.cells cur 3 (0,0))/\cur.size=n/\(∀j,j<i->cur[j]?=some (UM US ((j:Int)+1)))/\ac w wr
theorem Ec{q p:Nat}(h:p<q):(St.iT q).getD p 0=(p:Int)+1:=by
 unfold St.iT;rw[List.getD_eq_getElem?_getD,List.getElem?_map,List.getElem?_range h];rfl
theorem Fh(n:Nat)(w:UY)(hn:n<=100000) :
  Calls Tryz.prog 96 #[UM US (n:Int)] w λe w'=>∃A c,e=UU (UO A n c)/\iv w' A (St.iT n)/\n<=c/\c<=9223372036854775807/\ac w w':=by
 obtain⟨cz,hmk,hcz⟩:=If n (by omega);go_enter Tryz.func96,Tryz.ntmps96;go_wp2_with fail;go_loopw [9] (λs9 wr=>KY w n s9 wr) (λs9 _=>n+1-(intOf s9).toNat)
 case atStart=>exact⟨0,cz,rfl,by omega,heap_alloc_new w _,hcz,λj hj=>absurd hj (by omega),(ac.refl w).alloc _⟩
 case round=>
  obtain⟨i,cur,rfl,hi,hh,hc,hj,hu⟩:=hrel;have HU:=aa hu;have HH:=aa hh;have HJ:=aa hj;have HC:=aa hc;haveI:af w.1.size wr:=af.of (ae hh)
  by_cases hlt:i<n
  ·obtain⟨x0,g0⟩:∃x0,wr.cell? ⟨w.1.size,i,none⟩=some x0:=⟨cur[i]'(by omega),by rw[ak hh i,Array.getElem?_eq_getElem]⟩;have f0:wr.frozen? ⟨w.1.size,i,none⟩=false:=bk hh i
   have hfin:=aa (show KY w n (UM US ((i:Int)+1)) (wr.setCell ⟨w.1.size,i,none⟩ (UM US ((i:Int)+1)))from
    ⟨i+1,cur.setIfInBounds i (UM US ((i:Int)+1)),congrArg (UM US) (by omega),by omega,heap_setCell_same wr w.1.size i _ _ _ hh,by simp[hc],λj hj'=>by
     by_cases e:j=i
     ·subst e;rw[Array.getElem?_setIfInBounds_self_of_lt (by omega)]
     rw[Array.getElem?_setIfInBounds_ne (by omega)];exact HJ.out j (by omega),ac.mk (HU.out.below.setCell (p:=⟨w.1.size,i,none⟩) (Nat.le_refl _) _)⟩)
   clear hu hh hj hc;go_wp2;exact⟨hfin.out,by simp[intOf];omega⟩
  obtain rfl:i=n:=by omega
  have hfin:=aa (show iv wr (some ⟨w.1.size,0,none⟩) (St.iT i)from λ_=>⟨w.1.size,0,rfl,ae hh,λj hj'=>by
   rw[St.qy]at hj'
   rw[Nat.zero_add,ak hh j,hj j hj',Ec hj']⟩)
  clear hu hh hj hc hlt;go_wp2;go_ret;exact⟨_,_,rfl,hfin.out,Nat.le_refl _,by omega,HU.out⟩
def wH(W:UY)(mb:Nat)(F:List Int)(j:Nat):Prop:=∃l,Mz.At W mb l/\∀i,Mz.look i l=if i∈F.drop j then some (UM US ((F.idxOf i:Int)+1))else none
theorem wH.ai{a c:UY}{mb j:Nat}{F:List Int}(h:wH a mb F j)(u:ac a c):wH c mb F j:=by
 obtain⟨l,h1,h2⟩:=h;exact⟨l,h1.ai u,h2⟩
def Ln(w:UY)(F:List Int)(s8:Value)(wr:UY):Prop:=∃j:Nat,s8=UM US ((j:Int)-1)/\j<=F.length/\wH wr w.1.size F j/\ac w wr
def zJ(w:UY)(f:List St.It)(F:List Int)(n:Nat)(s9 IG:Value)(wr:UY):Prop:=
 ∃k:Nat,k<=n/\IG=UM US k/\wr.ownsRow w.1.size 36 3 s9 k (av ((f.take k).map (St.fP F)))/\wH wr w.1.size F 0/\ac w wr
theorem Kz(f:List St.It)(F:List Int)(k:Nat)(h:k<f.length):av ((f.take (k+1)).map (St.fP F))=av ((f.take k).map (St.fP F))++[UM US (St.fP F f[k]).1,UN ⟨(St.fP F f[k]).2.1.toArray⟩,UM US (St.fP F f[k]).2.2]:=by
 rw[List.take_add_one,List.getElem?_eq_getElem h,List.map_append];exact bE _ _
theorem MQ(f:List St.It)(F:List Int):bc (f.map (St.fP F))=bc f:=by
 unfold bc;rw[List.map_map];congr 1;refine List.map_congr_left λx _=>?_
 show(St.fP F x).2.1.length=_
 unfold St.fP;split<;>rfl
theorem Ke(A B C:Option Addr)(n c q d e0:Nat)(f:List St.It)(F:List Int)(w:UY)(hn:f.length=n)(hq:F.length=q)(h:aO w A f)(hB:iv w B F)(hC:iv w C (St.iT q))(hnd:F.Nodup)(hall:∀x∈f,St.aJ x.1=true->x.2.2∈F)(hl:n<=100000)(qi:q<=100000)(ht:bc f<=1000000000000) :
  Calls Tryz.prog 95 #[UO A n c,UO B q d,UO C q e0] w λe w'=>∃v,e=UU v/\w'.ownsRow w.1.size 36 3 v (St.bH (f.map (St.fP F))).length (av (St.bH (f.map (St.fP F))))/\ac w w':=by
 have H:=aa h;have HN:=aa hn;have HQ:=aa hq;have HB:=aa hB;have HC:=aa hC;have C2:=aa hnd;have Je:=aa hall;have HT:=aa ht;have hm:Tryz.prog.underlying 184=some (.map 3 3):=by kernel_rfl
 have hmk:∀W:UY,(Instr.makeMap 184 none).run Tryz.prog W=.ok (.map (some W.1.size)) (W.alloc (.map #[] 0)):=λW=>rfl
 have C1:=aa hm;obtain⟨i0,hi,hz0,hz1,hz2⟩:=info_parts dw;clear h hn hq hB hC hnd hall ht hm;have yq:min (q:Int) (q:Int)=(q:Int):=by omega
 go_enter Tryz.func95,Tryz.ntmps95;go_wp2_with fail;go_loopw [8] (λs8 wr=>Ln w F s8 wr) (λs8 _=>(intOf s8+1).toNat)
 case atStart=>exact⟨q,rfl,by rw[HQ.out];omega,⟨[],heap_alloc_new w _,λi=>by rw[List.drop_of_length_le (by rw[HQ.out];omega)];rfl⟩,(ac.refl w).alloc _⟩
 case round=>
  obtain⟨j,rfl,hj,hnw,hu⟩:=hrel;have HU:=aa hu;have hQ:=HQ.out
  by_cases LF:0<j
  ·obtain⟨m,rfl⟩:∃m,j=m+1:=⟨j-1,by omega⟩;have z1:((m+1:Nat):Int)-1=(m:Int):=by omega
   have z2:(0:Int)<=(m:Int):=by omega
   have z3:(m:Int)<(q:Int):=by omega
   obtain⟨b1,o1,rfl,hb1,hc1⟩:=(HB.out.ai hu) (by omega);obtain⟨b2,o2,rfl,hb2,hc2⟩:=(HC.out.ai hu) (by rw[St.qy];omega);have e1:=hc1 m (by omega);have e2:=hc2 m (by rw[St.qy];omega);rw[Ec (by omega)]at e2;have Om:m<F.length:=by omega
   have LD:F.getD m 0=F[m]:=by rw[List.getD_eq_getElem?_getD,List.getElem?_eq_getElem Om];rfl
   have hdr:F.drop m=F[m] :: F.drop (m+1):=List.drop_eq_getElem_cons Om;have bM:F.idxOf F[m]=m:=C2.out.idxOf_getElem m Om
   have a8:F[m] ∉ F.drop (m+1):=by
    have hs:(F.drop m).Nodup:=C2.out.sublist (List.drop_sublist _ _);rw[hdr]at hs;exact(List.nodup_cons.1 hs).1
   rw[LD]at e1;obtain⟨l,hat,hlk⟩:=hnw;have yp:Mz.look F[m] l=none:=by rw[hlk,if_neg a8]
   have vz:Mz.At wr.drew w.1.size l:=hat;have hpt:=Mz.DY C1.out (UM US ((m:Int)+1)) vz yp
   have hfin:=aa (show Ln w F (UM US ((m:Int)-1)) (Mz.put wr.drew w.1.size (l++[(F[m],UM US ((m:Int)+1))]))from
    ⟨m,rfl,by omega,⟨_,Mz.Iu vz _,λi=>by
     rw[Mz.Ie,hlk,hdr]
     by_cases h1:i∈F.drop (m+1)
     ·rw[if_pos h1,if_pos (List.mem_cons_of_mem _ h1)]
     rw[if_neg h1]
     by_cases h2:i=F[m]
     ·simp only[if_pos h2];rw[if_pos (by rw[h2];exact List.mem_cons_self),h2,bM]
     simp only[if_neg h2]
     rw[if_neg (by intro e;rcases List.mem_cons.1 e with e|e;exact h2 e;exact h1 e)]⟩,Mz.DR _ (HU.out.drew) (Nat.le_refl _)⟩)
   generalize F[m]=fm at e1 hpt hfin;haveI:af b1 wr:=af.of hb1;haveI:af b2 wr:=af.of hb2;clear hu hc1 hc2 hat hlk yp LD hdr bM a8 vz;rw[z1];go_wp2_with fail;go_region_law (fail)
   all_goals
    go_wp2;exact⟨hfin.out,by first|(simp[intOf];done)|(simp[intOf];omega)⟩
  obtain rfl:j=0:=by omega
  have C3:=aa hnw;have z1:¬(0:Int)<=((0:Nat):Int)-1:=by omega
  clear hu hnw LF hmk;go_wp2_with fail;go_loopw [9,36] (λs9 IG wr=>zJ w f F n s9 IG wr) (λ_ IG _=>n+1-(intOf IG).toNat)
  case atStart=>exact⟨0,by omega,rfl,World.ownsRow_nil _ _ _ _,C3.out,HU.out⟩
  case round=>
   clear C3 HU;obtain⟨k,hk,rfl,hown,hnw,hu⟩:=hrel;have HU:=aa hu;have hsz:=hu.size;have HOW:=aa hown;have C3:=aa hnw;have hN:=HN.out;obtain⟨AO,cO,rfl,_⟩:=aL hown;clear hu hnw
   by_cases hlt:k<n
   ·clear hown;have aS:k<f.length:=by omega
    obtain⟨b,off,rfl,hb,hc⟩:=(H.out.ai HU.out) (by omega);obtain⟨c0,c1,c2⟩:=hc k aS;have yv:=Kz f F k aS;have hal:=Je.out f[k] (List.getElem_mem aS);generalize f[k]=x at c0 c1 c2 yv hal;obtain⟨kd,tx,id⟩:=x;simp only at c0 c1 c2 hal;have hit:=λt W=>qT kd t id W
    haveI:af b wr:=af.of hb
    have hbb:∀(i:Int) (v':Value) (w4:UY),St.fP F (kd,tx,id)=(kd,tx,i)->w4.ownsRow w.1.size 36 3 v' (k+1) (av ((f.take k).map (St.fP F))++[UM US kd,UN ⟨tx.toArray⟩,UM US i])->wH w4 w.1.size F 0->ac w w4->zJ w f F n v' (UM US ((k:Int)+1)) w4:=λi v' w4 e h1 h2 h3=>
     ⟨k+1,by omega,congrArg (UM US) (by omega),by rw[yv,e];exact h1,h2,h3⟩
    have dr:=aa hbb;clear hc aS yv hbb;cases du:St.aJ kd
    ·rw[du]at hit;have HIT:=aa hit;have hre:=aa (show St.fP F (kd,tx,id)=(kd,tx,id)by unfold St.fP;rw[if_neg (by simp[du])]);clear hit du hal;go_wp2_with fail;refine(HIT.out _ _).mono ?_;rintro e w3 ⟨rfl,hu3⟩;have cE:ac wr w3:=ac.trans (uZ) hu3;have d0:w3.cell? ⟨wr.1.size,0,none⟩=some (.int .i64 kd):=(hu3.cell (p:=⟨wr.1.size,0,none⟩) (by simp)).trans (by simp);have d1:w3.cell? ⟨wr.1.size,1,none⟩=some (.string ⟨tx.toArray⟩):=(hu3.cell (p:=⟨wr.1.size,1,none⟩) (by simp)).trans (by simp);have d2:w3.cell? ⟨wr.1.size,2,none⟩=some (.int .i64 id):=(hu3.cell (p:=⟨wr.1.size,2,none⟩) (by simp)).trans (by simp);haveI:af wr.1.size w3:=af.of (cM _ _ d0);have bm:=aa (HU.out.trans cE);have qA:=aa (aE cE HOW.out);have Ro:=aa (C3.out.ai cE);have hs3:=bm.out.size;clear hu3 cE c0 c1 c2;go_wp2_with (at_builtin;refine wpList_append_own _ rfl _ _ 37 rfl w.1.size 36 i0 (.agg #[.int .i64 0,.string ⟨#[]⟩,.int .i64 0]) 3 32 Tryz.underlying37 hi hz0 hz1 hz2 rfl (by decide) (.slice AO k cO) k _ rfl (qA.out.alloc _) _ 1 1 [.int .i64 kd,.string ⟨tx.toArray⟩,.int .i64 id] rfl rfl ?_ (cN _ _ _) (by unfold maxLen;omega) (by omega) ?_ ?_)
     all_goals try exact eA _ _ _ _ _ _ rfl
     all_goals try (simp;omega;done)
     intro v' w4 hown' hgrow _;have HE:=aa (dr.out id v' w4 hre.out (by rw[List.map_take];exact hown') (by obtain⟨l,h1,h2⟩:=Ro.out;exact⟨l,Mz.ul (h1.ai ((ac.refl w3).alloc _)) hgrow (qA.out.alloc _),h2⟩) ((bm.out.alloc _).grown hgrow (λg hg=>aG qA.out g hg)));clear hown' hgrow;go_wp2;exact⟨HE.out,by simp[intOf];omega⟩
    rw[du]at hit;have HIT:=aa hit;have hin:=hal du;obtain⟨vU,hnid⟩:∃vU:Int,vU=(F.idxOf id:Int)+1:=⟨_,rfl⟩;have hre:=aa (show St.fP F (kd,tx,id)=(kd,tx,vU)by unfold St.fP;rw[if_pos (by simp[du]),hnid]);clear hit du hal;go_wp2_with fail;refine(HIT.out _ _).mono ?_;rintro e w3 ⟨rfl,hu3⟩;have cE:ac wr w3:=ac.trans (uZ) hu3;have hb3:=(hu3.below.block wr.1.size (by simp)).trans (heap_alloc_new wr (.cells #[UM US kd,UN ⟨tx.toArray⟩,UM US id] 36));have d0:w3.cell? ⟨wr.1.size,0,none⟩=some (UM US kd):=ak hb3 0;have d1:w3.cell? ⟨wr.1.size,1,none⟩=some (UN ⟨tx.toArray⟩):=ak hb3 1;have d2:w3.cell? ⟨wr.1.size,2,none⟩=some (UM US id):=ak hb3 2;have f2:w3.frozen? ⟨wr.1.size,2,none⟩=false:=bk hb3 2;haveI:af wr.1.size w3:=af.of (ae hb3);have bm:=aa (HU.out.trans cE);have qA:=aa (aE cE HOW.out);have RS:=C3.out.ai cE;obtain⟨l,hat,hlk⟩:=RS;have hget:=Mz.run_get C1.out true hat (show Mz.look id l=some (UM US vU)by rw[hlk,if_pos (by simpa using hin),hnid]);simp only[if_true]at hget;have hs3:=bm.out.size;have RN:w.1.size<wr.1.size:=by obtain⟨l0,h1,_⟩:=C3.out;exact h1.lt
    have kN:ac w (w3.setCell ⟨wr.1.size,2,none⟩ (.int .i64 vU)):=ac.mk (bm.out.below.setCell (p:=⟨wr.1.size,2,none⟩) hsz _);have qS:(w3.setCell ⟨wr.1.size,2,none⟩ (.int .i64 vU)).ownsRow w.1.size 36 3 (.slice AO k cO) k (av ((f.take k).map (St.fP F))):=aA qA.out (λe=>by have:=(HOW.out.lt _ e).2;omega);have LM:Mz.At (w3.setCell ⟨wr.1.size,2,none⟩ (.int .i64 vU)) w.1.size l:=(Below.heap_setCell w3 ⟨wr.1.size,2,none⟩ _ w.1.size (by simp;omega)).trans hat;have Af:=aa (And.intro kN (And.intro qS LM));have rW:=aa hlk;clear hu3 cE c0 c1 c2 hb3 kN qS LM hat hlk hin hnid;go_wp2_with (at_builtin;refine wpList_append_own _ rfl _ _ 37 rfl w.1.size 36 i0 (.agg #[.int .i64 0,.string ⟨#[]⟩,.int .i64 0]) 3 32 Tryz.underlying37 hi hz0 hz1 hz2 rfl (by decide) (.slice AO k cO) k _ rfl (Af.out.2.1.alloc _) _ 1 1 [.int .i64 kd,.string ⟨tx.toArray⟩,.int .i64 vU] rfl rfl ?_ (cN _ _ _) (by unfold maxLen;omega) (by omega) ?_ ?_)
    all_goals try exact eA _ _ _ _ _ _ (by first|rfl|(simp;done))
    all_goals try (simp;omega;done)
    intro v' w4 hown' hgrow _;have HE:=aa (dr.out vU v' w4 hre.out (by rw[List.map_take];exact hown') ⟨l,Mz.ul (Af.out.2.2.ai ((ac.refl _).alloc _)) hgrow (Af.out.2.1.alloc _),rW.out⟩ ((Af.out.1.alloc _).grown hgrow (λg hg=>aG qA.out g hg)));clear hown' hgrow;go_wp2;exact⟨HE.out,by simp[intOf];omega⟩
   have hkn:k=n:=by omega
   subst hkn;have hft:f.take k=f:=List.take_of_length_le (by omega);rw[hft]at hown;have hno:=yy AO k cO (f.map (St.fP F)) wr (by simp;omega) (aX hown (by simp;omega)) (by omega) (by rw[MQ];exact HT.out);have kl:=aa hno;clear hlt hown hno hft;go_wp2_with fail;refine kl.out.mono ?_;rintro e w5 ⟨v,rfl,ho,bo⟩;have HE:=aa (And.intro (dy ho (by omega)) (HU.out.trans bo));clear ho bo;go_wp2;go_ret;exact⟨v,rfl,HE.out.1,HE.out.2⟩
theorem Fx(f:List St.It):(St.jQ f).Nodup/\∀x∈f,St.aJ x.1=true->x.2.2∈St.jQ f:=by
 have key:∀(f:List St.It) (l:List Int),l.Nodup->(f.foldl St.dR l).Nodup/\(∀i∈l,i∈f.foldl St.dR l)/\∀x∈f,St.aJ x.1=true->x.2.2∈f.foldl St.dR l:=by
  intro f
  induction f with
  | nil=>exact λl hl=>⟨hl,λi hi=>hi,λx hx=>by cases hx⟩
  | cons y f ih=>
   intro l hl;rw[List.foldl_cons]
   have h1:(St.dR l y).Nodup/\(∀i∈l,i∈St.dR l y)/\(St.aJ y.1=true->y.2.2∈St.dR l y):=by
    unfold St.dR
    split
    ·rename_i h
     refine⟨?_,λi hi=>by simp[hi],λ_=>by simp⟩;rw[List.nodup_append];refine⟨hl,by simp,λa ha b hb=>?_⟩;simp at hb;subst hb;intro e;subst e;exact h.2 ha
    rename_i h
    exact⟨hl,λi hi=>hi,λht=>Classical.byContradiction λhc=>h ⟨ht,hc⟩⟩
   obtain⟨g1,g2,g3⟩:=ih _ h1.1;refine⟨g1,λi hi=>g2 i (h1.2.1 i hi),λx hx ht=>?_⟩;rcases List.mem_cons.1 hx with rfl|hx
   ·exact g2 _ (h1.2.2 ht)
   exact g3 x hx ht
 obtain⟨h1,_,h3⟩:=key f [] List.nodup_nil;exact⟨h1,h3⟩
theorem Fj(A:Option Addr)(n c:Nat)(f:List St.It)(w:UY)(hn:f.length=n)(h:aO w A f)(hl:n<=100000)(ht:bc f<=1000000000000) :
  Calls Tryz.prog 53 #[UO A n c] w λe w'=>∃v,e=UU v/\w'.ownsRow w.1.size 36 3 v (St.mZ f).length (av (St.mZ f))/\ac w w':=by
 have H1:=aa (Kb A n c f w hn h hl);have H:=aa h;obtain⟨hnd,hall⟩:=Fx f;have C2:=aa hnd;have Je:=aa hall;clear h hnd hall;go_enter Tryz.func53,Tryz.ntmps53;go_wp2_with fail;refine H1.out.mono ?_;rintro e w2 ⟨v2,rfl,hqn,fN,hu2⟩;obtain⟨A2,c2,rfl,_,_,_⟩:=aT fN;have aZ:=aa hu2;have zX:=aa (O4 fN rfl);have SK:=aa (λW=>Fh (St.jQ f).length W (by omega));clear hu2 fN H1;go_wp2_with fail;refine(SK.out _).mono ?_;rintro e w3 ⟨A3,c3,rfl,hI3,_,_,hu3⟩;have hr:=Ke A A2 A3 n c (St.jQ f).length c2 c3 f (St.jQ f) w3 hn rfl (H.out.ai (aZ.out.trans hu3)) (zX.out.ai hu3) hI3 C2.out Je.out hl (by omega) ht;have HR:=aa hr;have bm:=aa (aZ.out.trans hu3);clear hr hI3 hu3;go_wp2_with fail;refine HR.out.mono ?_;rintro e w4 ⟨v,rfl,ho,a6⟩;have HE:=aa (And.intro (dy ho (by have:=bm.out.size;omega)) (bm.out.trans a6));clear ho a6;go_wp2;go_ret;exact⟨v,rfl,HE.out.1,HE.out.2⟩
end
