/- The contract of item.Normalize: what it gives is St.normL. -/
import Derived.Lib.AppendStr
import Derived.Lib.AppendZerosOnto
import Derived.Test.YtcfhfdphoidaeaaGreatDoorGI
import Derived.Laws.OwnMore
import Derived.Test.YtcfhfdphoidaeaaGreatDoorRefSame
import Derived.MapKept
import Derived.Test.YtcfhfdphoidaeaaGreatDoorGF
import Derived.BigQuiet
import Derived.Laws.MakeOwn
import Derived.Deep.RegionLaw
set_option linter.unusedVariables false
set_option linter.unusedSimpArgs false
set_option maxHeartbeats 12800000
set_option maxRecDepth 20000
namespace Go.Proofs.YtcfhfdphoidaeaaGreatDoor
open Go.RowKit
section
theorem add_text{f:List St.It}{t:List UInt8}(h:St.NoTxt f)(s:List UInt8)(i:Int):St.addI (f++St.txt t) (1,s,i)=f++St.txt (t++s):=by
 by_cases hs:s=[]
 ·subst hs
  rw[List.append_nil];unfold St.addI;rw[if_pos rfl,if_pos rfl]
 ·unfold St.txt
  by_cases ht:t=[]
  ·subst ht
   simp only[if_true,List.append_nil,List.nil_append];rw[if_neg hs];rcases St.snoc_cases f with rfl|⟨a,b,rfl⟩
   ·rw[St.addI_nil];simp[hs]
   ·rw[St.addI_snoc]
    have:=h b (by simp)
    simp[this,hs]
  ·rw[if_neg ht,if_neg (by simp[ht]),St.addI_snoc];simp[hs]
theorem norm_tk(f:List St.It)(k:Nat)(h:k<f.length):St.normL (f.take (k+1))=St.addI (St.normL (f.take k)) f[k]:=by
 rw[List.take_add_one,List.getElem?_eq_getElem h];exact St.normL_snoc _ _
theorem tot_tk(f:List St.It)(k:Nat)(h:k<f.length):tot (f.take (k+1))=tot (f.take k)+f[k].2.1.length:=by
 rw[List.take_add_one,List.getElem?_eq_getElem h];exact tot_snoc _ _
theorem tot_tk_le(f:List St.It)(k:Nat):tot (f.take k)<=tot f:=by
 have e:tot f=tot (f.take k)+tot (f.drop k):=by
  conv=>lhs;rw[<- List.take_append_drop k f]
  unfold tot;rw[List.map_append,List.sum_append]
 omega
theorem conv_own0{w:World}{B n c:Nat}{A:Option Addr}{l:List UInt8}(h:w.ownsRow B 5 1 (.slice A n c) n (Lib.byteCells l))(h0:0<n) :
  (convert 137 9 (.slice A n c)).run Tryz.prog w=.ok (.string ⟨l.toArray⟩) w:=by
 have hl:l.length=n:=by have:=h.1;rw[Lib.byteCells_length] at this;simpa using this
 obtain⟨g,rfl,_,_,hc⟩:=own_cell h h0
 rw[run_convert_bytes_arg w 137 5 Tryz.underlying137 Tryz.underlying5 g 0 n c (l.map fun x=>(x.toNat:Int)) (by simpa using hl) (fun i hi=>by
  rw[Nat.zero_add];refine hc i _ ?_;have hil:i<l.length:=by omega
  simp[Lib.byteCells,List.getD_eq_getElem?_getD,hil]) _ Tryz.underlying9]
 simp[strOfNums,Function.comp_def]
theorem strCells_bytes(s:List UInt8):Lib.strCells ⟨s.toArray⟩=Lib.byteCells s:=by
 simp[Lib.strCells,Lib.byteCells]
theorem byteCells_app(a b:List UInt8):Lib.byteCells a++Lib.byteCells b=Lib.byteCells (a++b):=by simp[Lib.byteCells]
def INoRel(w:World)(f:List St.It)(n:Nat)(s3 s4:Value)(wr:World):Prop:=
 ∃ (k:Nat) (O:List St.It),k<=n/\s4=.int .i64 k/\O=St.normL (f.take k)/\(∀ x,f[k]?=some x->x.1=1->St.NoTxt O)/\O.length<=k/\wr.ownsRow w.heap.size 66 3 s3 O.length (cellsIt O)/\Und w wr
def INiRel(w:World)(f O:List St.It)(n k:Nat)(v:Value)(s4 s5:Value)(wr:World):Prop:=
 ∃ (j:Nat) (t:List UInt8),k<=j/\j<=n/\s4=.int .i64 j/\St.normL (f.take j)=O++St.txt t/\t.length<=tot (f.take j)/\wr.ownsRow w.heap.size 5 1 s5 t.length (Lib.byteCells t)/\wr.ownsRow w.heap.size 66 3 v O.length (cellsIt O)/\Und w wr
theorem inorm_any(A:Option Addr)(n c:Nat)(f:List St.It)(w:World)(hn:f.length=n)(h:ItemsAt w A f)(hl:n<=1000000)(ht:tot f<=1000000000000) :
  Calls Tryz.prog 74 #[.slice A n c] w fun e w'=>∃ v,e=.returned v/\w'.ownsRow w.heap.size 66 3 v (St.normL f).length (cellsIt (St.normL f))/\Und w w':=by
 have H:=hid h;have HN:=hid hn;have HT:=hid ht;obtain⟨i0,hi,hz0,hz1,hz2⟩:=info_parts info_item;obtain⟨ib,kb,kz0,kz1,kz2⟩:=info_parts info_byte;clear h hn ht;go_enter Tryz.func74,Tryz.ntmps74;go_wp2;go_loopw [3,4] (fun s3 s4 wr=>INoRel w f n s3 s4 wr) (fun _ s4 _=>n+1-(intOf s4).toNat)
 case atStart=>exact⟨0,[],by omega,rfl,rfl,fun _ _ _=>St.noTxt_nil,by simp,World.ownsRow_nil _ _ _ _,Und.refl _⟩
 case round=>
  obtain⟨k,O,hk,rfl,hO,hNT,hOl,hown,hu⟩:=hrel;have HU:=hid hu;have hsz:=hu.size;have HOW:=hid hown;have HNT:=hid hNT;have HOO:=hid hO;have hN:=HN.out;obtain⟨AO,cO,rfl,_⟩:=own_slice hown;clear hu hNT hO
  by_cases hlt:k<n
  ·clear hown
   have hlt2:k<f.length:=by omega
   obtain⟨b,off,hAe,hb,hc⟩:=(H.out.und HU.out) (by omega);obtain⟨c0,c1,c2⟩:=hc k hlt2;have hnt:=norm_tk f k hlt2;have hgx:f[k]?=some f[k]:=List.getElem?_eq_getElem hlt2;generalize f[k]=x at c0 c1 c2 hnt hgx;obtain⟨kd,tx,id⟩:=x;simp only at c0 c1 c2;haveI:LtW b wr:=LtW.of hb;have HNT2:=hid hnt;have HGX:=hid hgx;clear hc hnt hgx
   by_cases k1:kd=1
   ·subst k1
    have HNX:=hid (HNT.out _ HGX.out rfl);subst hAe;go_wp2_with fail;go_loopw [4,5] (fun s4 s5 wr=>INiRel w f O n k (.slice AO O.length cO) s4 s5 wr) (fun s4 _ _=>n+1-(intOf s4).toNat)
    case atStart=>exact⟨k,[],Nat.le_refl _,hk,rfl,by unfold St.txt;simp[HOO.out],by simp,World.ownsRow_nil _ _ _ _,HOW.out,HU.out⟩
    case round=>
     clear c0 c1 c2;obtain⟨j,t,hkj,hjn,rfl,hno,htl,hob,hown,hu⟩:=hrel;have HU2:=hid hu;have HOB:=hid hob;have HOW2:=hid hown;have HNO:=hid hno;have hT:=HT.out;have htk:=tot_tk_le f j;have hsz2:=hu.size;obtain⟨AB,cB,rfl,_⟩:=own_slice hob;clear hu hob hown hno
     by_cases hjt:j<n/\(f[j]?.map (·.1))=some 1
     ·obtain⟨hjl,hj1⟩:=hjt
      have hjl2:j<f.length:=by omega
      obtain⟨b2,off2,hAe2,hb2,hc2⟩:=(H.out.und HU2.out) (by omega);obtain⟨rfl,rfl⟩:b=b2/\off=off2:=by simp at hAe2;exact hAe2
      obtain⟨e0,e1,e2⟩:=hc2 j hjl2;have hnt:=norm_tk f j hjl2;have htt:=tot_tk f j hjl2;rw[List.getElem?_eq_getElem hjl2] at hj1;generalize f[j]=y at e0 e1 e2 hnt hj1 htt;obtain⟨yk,yt,yi⟩:=y;simp only[Option.map_some,Option.some.injEq] at hj1;subst hj1;simp only at e0 e1 e2 htt;rw[HNO.out,add_text HNX.out] at hnt;haveI:LtW b wr:=LtW.of hb2;have hyz:(⟨yt.toArray⟩:ByteArray).size=yt.length:=by show yt.toArray.size=_;simp
      have htk2:=tot_tk_le f (j+1);have HNT3:=hid hnt;clear hc2 hnt hjl2;go_wp2_with (at_builtin;refine Lib.wpList_append_own_string _ rfl _ _ 137 9 rfl w.heap.size 5 ib Tryz.underlying137 Tryz.underlying9 kb kz0 kz1 kz2 _ _ _ rfl HOB.out ⟨yt.toArray⟩ rfl ?_ ?_ ?_ ?_)
      ·unfold maxLen;omega
      ·show t.length+(⟨yt.toArray⟩:ByteArray).size<=_;rw[hyz];omega
      ·intro v' w4 hown' hgrow _
       rw[strCells_bytes,byteCells_app] at hown';have ho4:=HOW2.out.kept hgrow (rows_ne HOW2.out HOB.out (by decide));have hu4:=HU2.out.grown hgrow (fun g hg=>owns_block HOB.out g hg);have HE:=hid (show INiRel w f O n k (.slice AO O.length cO) (.int .i64 ((j:Int)+1)) v' w4 from⟨j+1,t++yt,by omega,by omega,congrArg (Value.int .i64) (by omega),HNT3.out,by rw[List.length_append,htt];omega,by rw[List.length_append];exact hown',ho4,hu4⟩);clear hown' hgrow ho4 hu4;go_wp2;exact⟨HE.out,by simp[intOf];omega⟩
     ·have hkj2:k<j:=by
       rcases Nat.lt_or_ge k j with h|h
       ·exact h
       ·exfalso
        have:j=k:=by omega
        subst this;exact hjt ⟨hlt,by rw[HGX.out];rfl⟩
      have hnx:∀ x,f[j]?=some x->x.1=1->∀ O':List St.It,St.NoTxt O':=by
       intro x hx h1 O';exfalso;refine hjt ⟨?_,by rw[hx];simp[h1]⟩;rcases Nat.lt_or_ge j n with h|h
       ·exact h
       ·rw[List.getElem?_eq_none (by omega)] at hx;cases hx
      have HNX2:=hid hnx;clear hnx
      by_cases ht0:t=[]
      ·subst ht0
       have hfin:=hid (show INoRel w f n (.slice AO O.length cO) (.int .i64 j) wr from⟨j,O,hjn,rfl,by rw[HNO.out];simp[St.txt],fun x hx h1=>HNX2.out x hx h1 O,by omega,HOW2.out,HU2.out⟩)
       by_cases hjl:j<n
       ·have hjl2:j<f.length:=by omega
        obtain⟨b2,off2,hAe2,hb2,hc2⟩:=(H.out.und HU2.out) (by omega);obtain⟨rfl,rfl⟩:b=b2/\off=off2:=by simp at hAe2;exact hAe2
        have e0:=(hc2 j hjl2).1;have hy1:¬ f[j].1=1:=fun e=>hjt ⟨hjl,by rw[List.getElem?_eq_getElem hjl2];simp[e]⟩
        generalize f[j].1=yk at e0 hy1;have q1:(yk==1)=false:=by simpa using hy1
        haveI:LtW b wr:=LtW.of hb2;clear hc2 hjt hy1;go_wp2;exact⟨hfin.out,by simp[intOf];omega⟩
       ·clear hjt
        go_wp2;exact⟨hfin.out,by simp[intOf];omega⟩
      ·have htp:0<t.length:=List.length_pos_iff.2 ht0
       have zt:(0:Int)<(t.length:Int):=by omega
       have hcv:∀ W,Und wr W->(convert 137 9 (.slice AB t.length cB)).run Tryz.prog W=.ok (.string ⟨t.toArray⟩) W:=fun W hW=>conv_own0 (own_und hW HOB.out) htp
       have hcv0:=hcv _ (Und.refl _)
       have hfin:∀ v' w4,w4.ownsRow w.heap.size 66 3 v' (O.length+1) (cellsIt O++[.int .i64 1,.string ⟨t.toArray⟩,.int .i64 0])->Und w w4->INoRel w f n v' (.int .i64 j) w4:=fun v' w4 h1 h2=>
        ⟨j,O++[(1,t,0)],hjn,rfl,by rw[HNO.out];simp[St.txt,ht0],fun x hx h1=>HNX2.out x hx h1 _,by simp;omega,by rw[cellsIt_snoc,List.length_append,List.length_singleton];exact h1,h2⟩
       have HFIN:=hid hfin;have happ:∀ (W:World),Und wr W->W.ownsRow w.heap.size 66 3 (.slice AO O.length cO) O.length (cellsIt O):=fun W hW=>own_und hW HOW2.out
       by_cases hjl:j<n
       ·have hjl2:j<f.length:=by omega
        obtain⟨b2,off2,hAe2,hb2,hc2⟩:=(H.out.und HU2.out) (by omega);obtain⟨rfl,rfl⟩:b=b2/\off=off2:=by simp at hAe2;exact hAe2
        have e0:=(hc2 j hjl2).1;have hy1:¬ f[j].1=1:=fun e=>hjt ⟨hjl,by rw[List.getElem?_eq_getElem hjl2];simp[e]⟩
        generalize f[j].1=yk at e0 hy1;have q1:(yk==1)=false:=by simpa using hy1
        haveI:LtW b wr:=LtW.of hb2;clear hc2 hjt hy1;go_wp2_with (at_builtin;refine wpList_append_own _ rfl _ _ 24 rfl w.heap.size 66 i0 (.agg #[.int .i64 0,.string ⟨#[]⟩,.int .i64 0]) 3 32 Tryz.underlying24 hi hz0 hz1 hz2 rfl (by decide) (.slice AO O.length cO) O.length _ rfl (happ _ (by apply_rules[uUe,uUa,uUb,uUc,uUd])) _ 1 1 [.int .i64 1,.string ⟨t.toArray⟩,.int .i64 0] rfl rfl ?_ (item_one _ _ _) (by unfold maxLen;omega) (by omega) ?_ ?_)
        all_goals try exact side3b _ _ _ _ _ _ rfl
        all_goals try omega
        all_goals try (simp;omega;done)
        ·intro v' w4 hown' hgrow _
         have HE:=hid (HFIN.out v' w4 hown' ((HU2.out.trans (by apply_rules[uUe,uUa,uUb,uUc,uUd])).grown hgrow (fun g hg=>owns_block HOW2.out g hg)));clear hown' hgrow;go_wp2;exact⟨HE.out,by simp[intOf];omega⟩
       ·clear hjt
        go_wp2_with (at_builtin;refine wpList_append_own _ rfl _ _ 24 rfl w.heap.size 66 i0 (.agg #[.int .i64 0,.string ⟨#[]⟩,.int .i64 0]) 3 32 Tryz.underlying24 hi hz0 hz1 hz2 rfl (by decide) (.slice AO O.length cO) O.length _ rfl (happ _ (by apply_rules[uUe,uUa,uUb,uUc,uUd])) _ 1 1 [.int .i64 1,.string ⟨t.toArray⟩,.int .i64 0] rfl rfl ?_ (item_one _ _ _) (by unfold maxLen;omega) (by omega) ?_ ?_)
        all_goals try exact side3b _ _ _ _ _ _ rfl
        all_goals try omega
        all_goals try (simp;omega;done)
        ·intro v' w4 hown' hgrow _
         have HE:=hid (HFIN.out v' w4 hown' ((HU2.out.trans (by apply_rules[uUe,uUa,uUb,uUc,uUd])).grown hgrow (fun g hg=>owns_block HOW2.out g hg)));clear hown' hgrow;go_wp2;exact⟨HE.out,by simp[intOf];omega⟩
   ·have q1:(kd==1)=false:=by simpa using k1
    have q2:(kd != 1)=true:=by simpa using k1
    have hadd:St.normL (f.take (k+1))=O++[(kd,tx,id)]:=by rw[HNT2.out,<- HOO.out];unfold St.addI;rw[if_neg k1]
    have hfin:∀ v' w4,w4.ownsRow w.heap.size 66 3 v' (O.length+1) (cellsIt O++[.int .i64 kd,.string ⟨tx.toArray⟩,.int .i64 id])->Und w w4->INoRel w f n v' (.int .i64 ((k:Int)+1)) w4:=fun v' w4 h1 h2=>
     ⟨k+1,O++[(kd,tx,id)],by omega,congrArg (Value.int .i64) (by omega),hadd.symm,fun _ _ _=>St.noTxt_snoc _ _ _ _ k1,by simp;omega,by rw[cellsIt_snoc,List.length_append,List.length_singleton];exact h1,h2⟩
    have HFIN:=hid hfin;subst hAe;clear k1 hadd hfin;go_wp2_with (at_builtin;refine wpList_append_own _ rfl _ _ 24 rfl w.heap.size 66 i0 (.agg #[.int .i64 0,.string ⟨#[]⟩,.int .i64 0]) 3 32 Tryz.underlying24 hi hz0 hz1 hz2 rfl (by decide) (.slice AO O.length cO) O.length _ rfl (HOW.out.alloc _) _ 1 1 [.int .i64 kd,.string ⟨tx.toArray⟩,.int .i64 id] rfl rfl ?_ (item_one _ _ _) (by unfold maxLen;omega) (by omega) ?_ ?_)
    all_goals try exact side3b _ _ _ _ _ _ rfl
    all_goals try omega
    all_goals try (simp;omega;done)
    ·intro v' w4 hown' hgrow _
     have HE:=hid (HFIN.out v' w4 hown' ((HU.out.alloc _).grown hgrow (fun g hg=>owns_block HOW.out g hg)));clear hown' hgrow;go_wp2;exact⟨HE.out,by simp[intOf];omega⟩
  ·have hkn:k=n:=by omega
   subst hkn;have hft:f.take k=f:=List.take_of_length_le (by omega);rw[hft] at HOO;have hOe:=HOO.out;subst hOe;clear hlt hft;go_wp2;go_ret;exact⟨_,rfl,HOW.out,HU.out⟩
end
section
set_option maxRecDepth 100000 in
theorem grow_nil(n:Nat)(w:World)(hn:n<=200000) :
  Calls Tryz.prog 222 #[.slice none 0 0,.int .i64 (n:Int)] w fun e w'=>∃ v,e=.returned v/\w'.ownsRow w.heap.size 66 3 v 0 []/\Und w w':=by
 obtain⟨i0,hi,hz0,hz1,hz2⟩:=info_parts info_item
 by_cases h0:n=0
 ·subst h0
  go_enter Tryz.func222,Tryz.ntmps222;go_wp2;go_ret;exact⟨_,rfl,World.ownsRow_nil _ _ _ _,Und.refl _⟩
 ·have z1:¬ (n:Int)<0:=by omega
  have z2:(0:Int)<(n:Int):=by omega
  have hold:(Builtin.firstCells i0.size 0 (.slice none 0 0)).run Tryz.prog w.drew=.ok ([]:List Value).toArray w.drew:=run_firstCells_none w.drew i0.size 0 0 0
  have hrz:∀ ty,(Builtin.append_ #[24,3] ty #[.slice none 0 0,.int .i64 (n:Int)]).run Tryz.prog w=.ok (.slice (some ⟨w.heap.size,0,none⟩) (0+n) (grownCap w (0+n) 0 66)) (w.drew.alloc (.cells (([]:List Value).toArray++Builtin.zeroCells (Value.agg #[.int .i64 0,.string ⟨#[]⟩,.int .i64 0]).cells n++Builtin.zeroCells (Value.agg #[.int .i64 0,.string ⟨#[]⟩,.int .i64 0]).cells (grownCap w (0+n) 0 66-(0+n))) 66)):=fun ty=>
   Lib.run_append_grow_zeros w 24 3 ty 66 i0 _ .i64 .i64 Tryz.underlying24 Tryz.underlying3 hi hz0 none 0 0 [] hold n (by omega) (by omega) (by omega) (by omega) (by rw[hz2];omega) (by rw[hz2,Nat.zero_add];exact growslice_fits (by omega) (by omega))
  have hge:=grownCap_ge w (0+n) 0 66;have hle:=grownCap_le_maxLen w (0+n) 0 66 (by unfold maxLen;omega);obtain⟨G,hG⟩:∃ G,G=grownCap w (0+n) 0 66:=⟨_,rfl⟩;rw[<- hG] at hrz hge hle;have hle2:G<=9223372036854775807:=by unfold maxLen at hle;omega
  have hown:∀ cs:Array Value,cs.size=G*3->(w.alloc (.cells cs 66)).drew.ownsRow w.heap.size 66 3 (.slice (some ⟨w.heap.size,0,none⟩) 0 G) 0 []:=fun cs hcs=>
   ⟨rfl,.inr ⟨w.heap.size,G,cs,rfl,Nat.le_refl _,heap_alloc_new w _,by omega,hle,hcs,by simp⟩⟩
  have HOWN:=hid hown;clear hold hG hown hle;go_enter Tryz.func222,Tryz.ntmps222;go_wp2_with (at_builtin;refine Lib.wpList_append_run _ rfl _ _ _ _ rfl _ _ rfl rfl _ _ (hrz _) ?_)
  all_goals (go_ret;exact⟨_,rfl,HOWN.out _ (by simp only[Array.size_append,size_zeroCells,List.size_toArray,List.length_cons,List.length_nil];omega),(by apply_rules[uUe,uUa,uUb,uUc,uUd])⟩)
def CcRel(w:World)(n m:Nat)(s3 s11:Value)(wr:World):Prop:=∃ j:Nat,j<=2/\s11=.int .i64 j/\s3=.int .i64 (if j=0 then (0:Int) else if j=1 then (n:Int) else (n:Int)+m)/\w=wr
def CdRel(w:World)(f g:List St.It)(s6 s27:Value)(wr:World):Prop:=∃ j:Nat,j<=2/\s27=.int .i64 j/\wr.ownsRow w.heap.size 66 3 s6 (if j=0 then 0 else if j=1 then f.length else f.length+g.length) (cellsIt (if j=0 then [] else if j=1 then f else f++g))/\Und w wr
theorem scat_any(A B:Option Addr)(n c m d:Nat)(f g:List St.It)(ab:Nat)(w:World)(hn:f.length=n)(hm:g.length=m)(hA:A=none->n=0/\c=0)(hB:B=none->m=0/\d=0)(h:ItemsAt w A f)(h':ItemsAt w B g)
  (hab:ab<w.heap.size) (g0:w.cell? ⟨ab,0,none⟩=some (.slice A n c)) (g1:w.cell? ⟨ab,1,none⟩=some (.slice B m d)) (hl:n+m<=100000) :
  Calls Tryz.prog 179 #[.slice (some ⟨ab,0,none⟩) 2 2] w fun e w'=>∃ v,e=.returned v/\w'.ownsRow w.heap.size 66 3 v (f++g).length (cellsIt (f++g))/\Und w w':=by
 have H:=hid h;have H':=hid h';have HG:=hid (grow_nil (n+m) w (by omega));have HA:=hid hA;have HB:=hid hB;have hc:((n+m:Nat):Int)=(n:Int)+m:=by omega
 rw[hc] at HG;haveI:LtW ab w:=LtW.of hab;clear h h' hA hB hc;subst hn hm;go_enter Tryz.func179,Tryz.ntmps179;go_wp2_with fail;go_loopw [3,11] (fun s3 s11 wr=>CcRel w f.length g.length s3 s11 wr) (fun _ s11 _=>3-(intOf s11).toNat)
 case atStart=>exact⟨0,by omega,rfl,rfl,rfl⟩
 case round=>
  obtain⟨j,hj,rfl,hs3,rfl⟩:=hrel;rcases(show j=0∨j=1∨j=2 by omega) with rfl|rfl|rfl
  ·obtain rfl:=hs3
   have y1:¬ ((0:Int)+(f.length:Int)<0):=by omega
   have y2:¬ ((f.length:Int)<0):=by omega
   go_wp2;exact⟨⟨1,by omega,rfl,by first|rfl|(simp;done),rfl⟩,by simp[intOf]⟩
  ·obtain rfl:=hs3
   simp only[if_neg (show ¬ (1:Nat)=0 by omega),if_true];have y1:¬ ((f.length:Int)+(g.length:Int)<0):=by omega
   go_wp2;exact⟨⟨2,by omega,rfl,by first|rfl|(simp;done),rfl⟩,by simp[intOf]⟩
  ·obtain rfl:=hs3
   simp only[if_neg (show ¬ (2:Nat)=0 by omega),if_neg (show ¬ (2:Nat)=1 by omega)];go_wp2_with fail;refine HG.out.mono ?_;rintro e w2 ⟨v,rfl,ho,hu⟩;have HO:=hid ho;have HU:=hid hu;obtain⟨AO,cO,rfl,_⟩:=own_slice ho;clear ho hu HG;go_wp2_with fail;go_loopw [6,27] (fun s6 s27 wr=>CdRel w f g s6 s27 wr) (fun _ s27 _=>3-(intOf s27).toNat)
   case atStart=>exact⟨0,by omega,rfl,HO.out,HU.out⟩
   case round=>
    clear HO HU;obtain⟨j,hj,rfl,ho,hu⟩:=hrel;have HU:=hid hu;have hsz:=hu.size;have e0:=(hu.cell (p:=⟨ab,0,none⟩) hab).trans g0;have e1:=(hu.cell (p:=⟨ab,1,none⟩) hab).trans g1;haveI:LtW ab wr:=LtW.of (Nat.lt_of_lt_of_le hab hsz);clear hu;rcases(show j=0∨j=1∨j=2 by omega) with rfl|rfl|rfl
    ·have HO:=hid ho
     obtain⟨A1,c1,rfl,_⟩:=own_slice ho;clear ho;go_wp2_with (at_builtin;refine wpList_append_items rfl _ _ rfl w.heap.size _ 0 [] rfl HO.out A f.length c f rfl HA.out (H.out.und HU.out) rfl (by omega) hsz ?_);intro v' w4 ho4 hg4;have HE:=hid (show CdRel w f g v' (.int .i64 1) w4 from⟨1,by omega,rfl,by simpa using ho4,HU.out.grown hg4 (fun x hx=>owns_block HO.out x hx)⟩);clear ho4 hg4;go_wp2;exact⟨HE.out,by simp[intOf]⟩
    ·have ho1:wr.ownsRow w.heap.size 66 3 _ f.length (cellsIt f):=ho
     have HO:=hid ho1;obtain⟨A1,c1,rfl,_⟩:=own_slice ho1;clear ho ho1;go_wp2_with (at_builtin;refine wpList_append_items rfl _ _ rfl w.heap.size _ f.length f rfl HO.out B g.length d g rfl HB.out (H'.out.und HU.out) rfl (by omega) hsz ?_);intro v' w4 ho4 hg4;have HE:=hid (show CdRel w f g v' (.int .i64 2) w4 from⟨2,by omega,rfl,ho4,HU.out.grown hg4 (fun x hx=>owns_block HO.out x hx)⟩);clear ho4 hg4;go_wp2;exact⟨HE.out,by simp[intOf]⟩
    ·have ho1:wr.ownsRow w.heap.size 66 3 _ (f.length+g.length) (cellsIt (f++g)):=ho
     have HO:=hid ho1;obtain⟨A1,c1,rfl,_⟩:=own_slice ho1;clear ho ho1;go_wp2;go_ret;exact⟨_,rfl,by rw[List.length_append];exact HO.out,HU.out⟩
set_option maxRecDepth 100000 in
theorem icat_any(A B:Option Addr)(n c m d:Nat)(f g:List St.It)(w:World)(hn:f.length=n)(hm:g.length=m)(hA:A=none->n=0/\c=0)(hB:B=none->m=0/\d=0)(h:ItemsAt w A f)(h':ItemsAt w B g)(hl:n+m<=100000)(ht:tot (f++g)<=1000000000000) :
  Calls Tryz.prog 125 #[.slice A n c,.slice B m d] w fun e w'=>∃ v,e=.returned v/\w'.ownsRow w.heap.size 66 3 v (St.normL (f++g)).length (cellsIt (St.normL (f++g)))/\Und w w':=by
 have hsc:=fun (W:World) (ab:Nat) (hW:Und w W) (hab:ab<W.heap.size) (g0:W.cell? ⟨ab,0,none⟩=some (.slice A n c)) (g1:W.cell? ⟨ab,1,none⟩=some (.slice B m d))=>scat_any A B n c m d f g ab W hn hm hA hB (h.und hW) (h'.und hW) hab g0 g1 hl
 have hlen:(f++g).length<=1000000:=by rw[List.length_append];omega
 have hno:=fun (A:Option Addr) (c:Nat) (W:World) (h:ItemsAt W A (f++g))=>inorm_any A (f++g).length c (f++g) W rfl h hlen ht
 generalize f++g=F at hsc hno ⊢;have HSC:=hid hsc;have HN:=hid hno;clear h h' hsc hno hA hB hlen ht hl;go_enter Tryz.func125,Tryz.ntmps125;go_wp2_with fail;refine(HSC.out _ _ (by apply_rules[uUe,uUa,uUb,uUc,uUd]) (by simp) (by simp) (by simp)).mono ?_;rintro e w2 ⟨v,rfl,ho,hu⟩;obtain⟨AO,cO,rfl,_⟩:=own_slice ho;have hno:=HN.out AO cO w2 (items_own ho rfl);have HNO:=hid hno;have HU:=hid (show Und w w2 from Und.trans ((by apply_rules[uUe,uUa,uUb,uUc,uUd])) hu);clear hno ho hu;go_wp2_with fail;refine HNO.out.mono ?_;rintro e w3 ⟨v3,rfl,ho3,hu3⟩;have HE:=hid (And.intro (own_low ho3 HU.out.size) (HU.out.trans hu3));clear ho3 hu3;go_wp2;go_ret;exact⟨_,rfl,HE.out.1,HE.out.2⟩
end
section
theorem sl_take(a b:Nat)(f:List St.It)(k:Nat)(h:k<f.length):St.sliceL a b 0 (f.take (k+1))=St.sliceL a b 0 (f.take k)++St.sliceL a b (St.lenL (f.take k)) [f[k]]:=by
 rw[List.take_add_one,List.getElem?_eq_getElem h];have:=St.sliceL_snoc a b (f.take k) f[k] 0
 rw[Nat.zero_add] at this;exact this
theorem sl_len(a b:Nat)(f:List St.It):∀ at',(St.sliceL a b at' f).length<=f.length:=by
 induction f with
 | nil=>intro at';simp[St.sliceL]
 | cons x f ih=>
  intro at';rw[St.sliceL,List.length_append];have:=ih (at'+St.widthI x)
  have h1:(if x.1=1 then (if max a at' - at'<min b (at'+x.2.1.length)-at' then [((1:Int),(x.2.1.take (min b (at'+x.2.1.length)-at')).drop (max a at' - at'),x.2.2)] else []) else (if a<=at'/\at'<b then [x] else [])).length<=1:=by
   repeat' split
   all_goals simp
  simp only[List.length_cons];omega
theorem lenL_tk(f:List St.It)(k:Nat)(h:k<f.length):St.lenL (f.take (k+1))=St.lenL (f.take k)+St.widthI f[k]:=by
 rw[List.take_add_one,List.getElem?_eq_getElem h];exact St.lenL_snoc _ _
theorem lenL_tk_le(f:List St.It)(k:Nat):St.lenL (f.take k)<=St.lenL f:=by
 have e:St.lenL f=St.lenL (f.take k)+St.lenL (f.drop k):=by
  conv=>lhs;rw[<- List.take_append_drop k f]
  unfold St.lenL;rw[List.map_append,List.sum_append]
 omega
theorem sl_one(a b m:Nat)(kd id:Int)(tx:List UInt8){lo hi:Nat}(h1:lo=max a m)(h2:hi=min b (m+St.widthI (kd,tx,id))) :
  St.sliceL a b m [(kd,tx,id)]=if lo<hi then (if kd=1 then [(1,(tx.take (hi-m)).drop (lo-m),id)] else [(kd,tx,id)]) else []:=by
 unfold St.sliceL St.sliceL St.widthI at *;simp only[List.append_nil] at *
 by_cases hk:kd=1
 ·rw[if_pos hk] at h2
  simp only[if_pos hk,<- h1,<- h2]
  by_cases hl:lo<hi
  ·rw[if_pos (by omega),if_pos hl]
  ·rw[if_neg (by omega),if_neg hl]
 ·rw[if_neg hk] at h2
  simp only[if_neg hk]
  by_cases hl:lo<hi
  ·rw[if_pos (by omega),if_pos hl]
  ·rw[if_neg (by omega),if_neg hl]
def ISRel(w:World)(a b:Nat)(f:List St.It)(n:Nat)(s8 s9 s30:Value)(wr:World):Prop:=
 ∃ k:Nat,k<=n/\s30=.int .i64 k/\s9=.int .i64 (St.lenL (f.take k):Nat)/\wr.ownsRow w.heap.size 66 3 s8 (St.sliceL a b 0 (f.take k)).length (cellsIt (St.sliceL a b 0 (f.take k)))/\Und w wr
theorem islice_any(A:Option Addr)(n c:Nat)(f:List St.It)(a b:Nat)(w:World)(hn:f.length=n)(h:ItemsAt w A f)(hl:n<=100000)(ht:tot f<=1000000000000)(hab:a<=b)(hbl:b<=St.lenL f) :
  Calls Tryz.prog 57 #[.slice A n c,.int .i64 a,.int .i64 b] w fun e w'=>∃ v,e=.returned (.tuple #[v,.bool true])/\w'.ownsRow w.heap.size 66 3 v (St.sliceL a b 0 f).length (cellsIt (St.sliceL a b 0 f))/\Und w w':=by
 have H:=hid h;have HN:=hid hn;have hle:=hid (ilength_any A n c f w hn h (by omega) (by omega));have HLB:=hid (show St.lenL f<=2000000000000 by have:=lenL_tot f;omega);obtain⟨i0,hi,hz0,hz1,hz2⟩:=info_parts info_item;have y1:¬ (a:Int)<0:=by omega
 have y2:¬ (b:Int)<(a:Int):=by omega
 have y3:¬ ((St.lenL f:Nat):Int)<(b:Int):=by omega
 have y4:¬ St.lenL f<b:=by omega
 clear h hn;go_enter Tryz.func57,Tryz.ntmps57;go_wp2_with fail;refine hle.out.mono ?_;rintro e w1 ⟨rfl,hu1⟩;have HU1:=hid hu1;clear hu1 hle;go_wp2_with fail;go_loopw [8,9,30] (fun s8 s9 s30 wr=>ISRel w a b f n s8 s9 s30 wr) (fun _ _ s30 _=>n+1-(intOf s30).toNat)
 case atStart=>exact⟨0,by omega,rfl,rfl,World.ownsRow_nil _ _ _ _,HU1.out⟩
 case round=>
  obtain⟨k,hk,rfl,rfl,hown,hu⟩:=hrel;have HU:=hid hu;have HO:=hid hown;have hsz:=hu.size;clear hu y1 y2 y3 y4;have hN:=HN.out
  by_cases hlt:k<n
  ·clear hown
   have hlt2:k<f.length:=by omega
   obtain⟨g,off,rfl,hg,hc⟩:=(H.out.und HU.out) (by omega);obtain⟨c0,c1,c2⟩:=hc k hlt2;have hst:=sl_take a b f k hlt2;have hlk:=lenL_tk f k hlt2;have hlt3:=lenL_tk_le f (k+1);have hsl:=sl_len a b (f.take k) 0;have hLB:=HLB.out;have hx1:=tot_tk f k hlt2;have hx2:=tot_tk_le f (k+1);generalize f[k]=x at c0 c1 c2 hst hlk hx1;obtain⟨kd,tx,id⟩:=x;simp only at c0 c1 c2 hx1;generalize hO:St.sliceL a b 0 (f.take k)=O at HO hst hsl;obtain⟨A8,c8,rfl,_,_,hA8⟩:=own_slice' HO.out;have hOl:O.length<=100000:=by simp at hsl;omega
   have htl:(⟨tx.toArray⟩:ByteArray).size=tx.length:=by show tx.toArray.size=_;simp
   obtain⟨m,hm⟩:∃ m,m=St.lenL (f.take k):=⟨_,rfl⟩;rw[<- hm] at hlk hst ⊢;obtain⟨lo,hlo⟩:∃ lo,lo=max a m:=⟨_,rfl⟩;obtain⟨hi',hhi⟩:∃ hi',hi'=min b (m+St.widthI (kd,tx,id)):=⟨_,rfl⟩;rw[sl_one a b m kd id tx hlo hhi] at hst;have hwd:=hid (fun W=>iwidth_any kd tx id W);have hwt:kd=1->St.widthI (kd,tx,id)=tx.length:=fun e=>by unfold St.widthI;rw[if_pos e]
   have hw1:St.widthI (kd,tx,id)<=tx.length+1:=by unfold St.widthI;split <;> simp <;> omega
   generalize St.widthI (kd,tx,id)=wd at hwd hlk hhi hwt hw1;obtain⟨N,hNN⟩:∃ N,N=m+wd:=⟨_,rfl⟩;have eN:(m:Int)+(wd:Int)=(N:Int):=by omega
   have hlkN:St.lenL (f.take (k+1))=N:=by omega
   have REL0:Hid (∀ W v,W.ownsRow w.heap.size 66 3 v (St.sliceL a b 0 (f.take (k+1))).length (cellsIt (St.sliceL a b 0 (f.take (k+1))))->Und w W->ISRel w a b f n v (.int .i64 (N:Int)) (.int .i64 ((k:Int)+1)) W):=
    hid fun W v h1 h2=>⟨k+1,by omega,congrArg (Value.int .i64) (by omega),by rw[hlkN],h1,h2⟩
   haveI:LtW g wr:=LtW.of hg;rw[<- hNN] at hhi;have hNb:N<=2000000000000:=by omega
   have HST:=hid hst;have HWT:=hid hwt;have emx:max (a:Int) (m:Int)=(lo:Int):=by omega
   have emn:min (b:Int) (N:Int)=(hi':Int):=by omega
   clear hc hlt2 hst hlkN hlk hwt hm hNN;go_wp2_with fail;refine(hwd.out _).mono ?_;rintro e w3 ⟨rfl,hu3⟩;have hu3':Und wr w3:=Und.trans ((by apply_rules[uUe,uUa,uUb,uUc,uUd])) hu3;have hb3:=(hu3.below.block wr.heap.size (by simp)).trans (heap_alloc_new wr (.cells #[.int .i64 kd,.string ⟨tx.toArray⟩,.int .i64 id] 66));have d0:w3.cell? ⟨wr.heap.size,0,none⟩=some (.int .i64 kd):=zcH hb3 0;have d1:w3.cell? ⟨wr.heap.size,1,none⟩=some (.string ⟨tx.toArray⟩):=zcH hb3 1;have d2:w3.cell? ⟨wr.heap.size,2,none⟩=some (.int .i64 id):=zcH hb3 2;have f1:w3.frozen? ⟨wr.heap.size,1,none⟩=false:=zfH hb3 1;haveI:LtW wr.heap.size w3:=LtW.of (lt_of_heap hb3);have HU3:=hid (HU.out.trans hu3');have HO3:=hid (own_und hu3' HO.out);have HB3:=hid hb3;have hsz3:=HU3.out.size;clear hu3 hu3' hb3 c0 c1 c2 hwd;generalize hbx:wr.heap.size=bx at *;have hwbx:w.heap.size<=bx:=by omega
   have hset:∀ v,Und w (w3.setCell ⟨bx,1,none⟩ v):=fun v=>Und.mk (HU3.out.below.setCell hwbx v)
   have hsetO:∀ v,(w3.setCell ⟨bx,1,none⟩ v).ownsRow w.heap.size 66 3 (.slice A8 O.length c8) O.length (cellsIt O):=fun v=>own_set HO3.out (fun e=>by have:=(HO.out.lt _ e).2;omega)
   by_cases hll:lo<hi'
   ·have HS:=HST.out
    rw[if_pos hll] at HS;have zl:(lo:Int)<(hi':Int):=by omega
    by_cases hkd:kd=1
    ·subst hkd
     rw[if_pos rfl] at HS;have hwl:=HWT.out rfl;obtain⟨p,hp⟩:∃ p,p=lo-m:=⟨_,rfl⟩;obtain⟨q,hq⟩:∃ q,q=hi' - m:=⟨_,rfl⟩;rw[<- hp,<- hq] at HS;have e1:(lo:Int)-(m:Int)=(p:Int):=by omega
     have e2:(hi':Int)-(m:Int)=(q:Int):=by omega
     have z2:(0:Int)<=(p:Int):=by omega
     have z3:(p:Int)<=(q:Int):=by omega
     have z4:(q:Int)<=(tx.length:Int):=by omega
     obtain⟨sx,hsx⟩:∃ sx:ByteArray,(⟨tx.toArray⟩:ByteArray).extract p q=sx:=⟨_,rfl⟩;have hsl:(tx.take q).drop p=sx.data.toList:=by rw[<- hsx,Lib.extract_data,List.drop_take]
     rw[hsl] at HS;have HS2:=hid HS;have hsx2:(⟨tx.toArray⟩:ByteArray).extract (max a m-m) (min b N-m)=sx:=by rw[<- hlo,<- hhi,<- hp,<- hq];exact hsx
     have hfin:∀ v' w4,w4.ownsRow w.heap.size 66 3 v' (O.length+1) (cellsIt O++[.int .i64 1,.string sx,.int .i64 id])->Und w w4->ISRel w a b f n v' (.int .i64 (N:Int)) (.int .i64 ((k:Int)+1)) w4:=fun v' w4 h1 h2=>
      REL0.out w4 v' (by rw[HS2.out,cellsIt_snoc,List.length_append,List.length_singleton,ba_eta];exact h1) h2
     have HFIN:=hid hfin;have HSE:=hid (And.intro hset hsetO);clear hfin HS hsl hset hsetO HS2 hwl hp hq;go_wp2_with (at_builtin;refine wpList_append_own _ rfl _ _ 24 rfl w.heap.size 66 i0 (.agg #[.int .i64 0,.string ⟨#[]⟩,.int .i64 0]) 3 32 Tryz.underlying24 hi hz0 hz1 hz2 rfl (by decide) (.slice A8 O.length c8) O.length _ rfl ((HSE.out.2 _).alloc _) _ 1 1 [.int .i64 1,.string sx,.int .i64 id] rfl rfl ?_ (item_one _ _ _) (by unfold maxLen;omega) (by omega) ?_ ?_)
     all_goals try exact side3b _ _ _ _ _ _ (by first|rfl|(simp;done))
     all_goals try (simp;omega;done)
     ·intro v' w4 hown' hgrow _
      have HE:=hid (HFIN.out v' w4 hown' (((HSE.out.1 _).alloc _).grown hgrow (fun g hg=>owns_block HO3.out g hg)));clear hown' hgrow;go_wp2;exact⟨HE.out,by simp[intOf];omega⟩
    ·rw[if_neg hkd] at HS
     have q1:(kd==1)=false:=by simpa using hkd
     have HS2:=hid HS
     have hfin:∀ v' w4,w4.ownsRow w.heap.size 66 3 v' (O.length+1) (cellsIt O++[.int .i64 kd,.string ⟨tx.toArray⟩,.int .i64 id])->Und w w4->ISRel w a b f n v' (.int .i64 (N:Int)) (.int .i64 ((k:Int)+1)) w4:=fun v' w4 h1 h2=>
      REL0.out w4 v' (by rw[HS2.out,cellsIt_snoc,List.length_append,List.length_singleton];exact h1) h2
     have HFIN:=hid hfin;clear hfin HS hset hsetO HS2 hkd;go_wp2_with (at_builtin;refine wpList_append_own _ rfl _ _ 24 rfl w.heap.size 66 i0 (.agg #[.int .i64 0,.string ⟨#[]⟩,.int .i64 0]) 3 32 Tryz.underlying24 hi hz0 hz1 hz2 rfl (by decide) (.slice A8 O.length c8) O.length _ rfl (HO3.out.alloc _) _ 1 1 [.int .i64 kd,.string ⟨tx.toArray⟩,.int .i64 id] rfl rfl ?_ (item_one _ _ _) (by unfold maxLen;omega) (by omega) ?_ ?_)
     all_goals try exact side3b _ _ _ _ _ _ (by first|rfl|(simp;done))
     all_goals try (simp;omega;done)
     ·intro v' w4 hown' hgrow _
      have HE:=hid (HFIN.out v' w4 hown' ((HU3.out.alloc _).grown hgrow (fun g hg=>owns_block HO3.out g hg)));clear hown' hgrow;go_wp2;exact⟨HE.out,by simp[intOf];omega⟩
   ·have HS:=HST.out
    rw[if_neg hll,List.append_nil] at HS;have zl:¬ (lo:Int)<(hi':Int):=by omega
    have HFIN:=hid (REL0.out w3 (.slice A8 O.length c8) (by rw[HS];exact HO3.out) HU3.out);clear HS hset hsetO hlo hhi;go_wp2;exact⟨HFIN.out,by simp[intOf];omega⟩
  ·have hkn:k=n:=by omega
   subst hkn;have hft:f.take k=f:=List.take_of_length_le (by omega);rw[hft] at hown;have HO2:=hid hown;clear hlt hft hown HO;go_wp2;go_ret2;exact⟨_,rfl,HO2.out,HU.out⟩
end
section
theorem sequal_items(A B:Option Addr)(n m c d:Nat)(f g:List St.It)(w:World)(hn:f.length=n)(hm:g.length=m)(hc:n<=c)(hd:m<=d)(hc63:c<=9223372036854775807)(hd63:d<=9223372036854775807)(hA:ItemsAt w A f)(hB:ItemsAt w B g) :
  Calls Tryz.prog 124 #[.slice A n c,.slice B m d] w fun e w'=>e=.returned (.bool (decide (f=g)))/\Und w w':=by
 by_cases hnm:n=m
 ·subst hnm
  have HA:=hid hA;have HB:=hid hB;have HN:=hid hn;have HM:=hid hm;clear hA hB hn hm;go_enter Tryz.func124,Tryz.ntmps124;go_wp2;go_loopw [13] (fun i wr=>SaRel w f g n i wr) (fun i _=>n+1-(intOf i).toNat)
  case atStart=>exact⟨0,by omega,rfl,rfl,Und.refl _⟩
  case round=>
   obtain⟨k,hk,rfl,hs,hu⟩:=hrel;have HU:=hid hu;have HS:=hid hs;clear hu hs
   by_cases hlt:k<n
   ·have hk1:k<f.length:=by rw[HN.out];exact hlt
    have hk2:k<g.length:=by rw[HM.out];exact hlt
    obtain⟨b,o,rfl,hb,hc1⟩:=(HA.out.und HU.out) (by omega);obtain⟨b',o',rfl,hb',hc2⟩:=(HB.out.und HU.out) (by omega);obtain⟨h1,h2,h3⟩:=hc1 k hk1;obtain⟨h1',h2',h3'⟩:=hc2 k hk2;have hst:=hid (fun e=>same_step HS.out hk1 hk2 e);have hne:f[k] ≠ g[k]->f ≠ g:=fun h e=>h (by subst e;rfl)
    have HNE:=hid hne;generalize f[k]=x at h1 h2 h3 hst HNE;generalize g[k]=y at h1' h2' h3' hst HNE;obtain⟨xk,xt,xi⟩:=x;obtain⟨yk,yt,yi⟩:=y;simp only at h1 h2 h3 h1' h2' h3';haveI:LtW b wr:=LtW.of hb;haveI:LtW b' wr:=LtW.of hb';clear hc1 hc2 hk1 hk2 hne;cases he:eqI (xk,xt,xi) (yk,yt,yi)
    ·have hF:=hid (HNE.out (of_decide_eq_false he))
     go_wp2_with fail;go_quiet (fail);go_wp2;go_ret;refine⟨ret_bool (decide_eq_false hF.out).symm,(by apply_rules[uUe,uUa,uUb,uUc,uUd])⟩
    ·have hF:=hid (hst.out (of_decide_eq_true he))
     go_wp2_with fail;go_quiet (fail);go_wp2;refine⟨⟨k+1,by omega,rfl,hF.out,HU.out.trans (by apply_rules[uUe,uUa,uUb,uUc,uUd])⟩,by simp[intOf];omega⟩
   ·obtain rfl:k=n:=by omega
    have hF:=hid (same_end HS.out HN.out HM.out);clear hlt;go_wp2;go_ret;exact⟨ret_bool (decide_eq_true hF.out).symm,HU.out⟩
 ·have hF:=hid (show ¬ f=g from fun e=>hnm (by rw[<- hn,<- hm,e]))
  have z:((n:Int)==(m:Int))=false:=by simp;omega
  clear hA hB hn hm;go_enter Tryz.func124,Tryz.ntmps124;go_wp2;go_ret;exact⟨ret_bool (decide_eq_false hF.out).symm,Und.refl _⟩
theorem sequal_parts(A B:Option Addr)(n m c d:Nat)(f g:List St.Pt)(w:World)(hn:f.length=n)(hm:g.length=m)(hc:n<=c)(hd:m<=d)(hc63:c<=9223372036854775807)(hd63:d<=9223372036854775807)(hA:PartsAt w A f)(hB:PartsAt w B g) :
  Calls Tryz.prog 117 #[.slice A n c,.slice B m d] w fun e w'=>e=.returned (.bool (decide (f=g)))/\Und w w':=by
 by_cases hnm:n=m
 ·subst hnm
  have HA:=hid hA;have HB:=hid hB;have HN:=hid hn;have HM:=hid hm;clear hA hB hn hm;go_enter Tryz.func117,Tryz.ntmps117;go_wp2;go_loopw [13] (fun i wr=>SaRel w f g n i wr) (fun i _=>n+1-(intOf i).toNat)
  case atStart=>exact⟨0,by omega,rfl,rfl,Und.refl _⟩
  case round=>
   obtain⟨k,hk,rfl,hs,hu⟩:=hrel;have HU:=hid hu;have HS:=hid hs;clear hu hs
   by_cases hlt:k<n
   ·have hk1:k<f.length:=by rw[HN.out];exact hlt
    have hk2:k<g.length:=by rw[HM.out];exact hlt
    obtain⟨b,o,rfl,hb,hc1⟩:=(HA.out.und HU.out) (by omega);obtain⟨b',o',rfl,hb',hc2⟩:=(HB.out.und HU.out) (by omega);obtain⟨h1,h2,h3⟩:=hc1 k hk1;obtain⟨h1',h2',h3'⟩:=hc2 k hk2;have hst:=hid (fun e=>same_step HS.out hk1 hk2 e);have hne:f[k] ≠ g[k]->f ≠ g:=fun h e=>h (by subst e;rfl)
    have HNE:=hid hne;generalize f[k]=x at h1 h2 h3 hst HNE;generalize g[k]=y at h1' h2' h3' hst HNE;obtain⟨xk,xt,xi⟩:=x;obtain⟨yk,yt,yi⟩:=y;simp only at h1 h2 h3 h1' h2' h3';haveI:LtW b wr:=LtW.of hb;haveI:LtW b' wr:=LtW.of hb';clear hc1 hc2 hk1 hk2 hne;cases he:eqQ (xk,xt,xi) (yk,yt,yi)
    ·have hF:=hid (HNE.out (of_decide_eq_false he))
     go_wp2_with fail;go_quiet (fail);go_wp2;go_ret;refine⟨ret_bool (decide_eq_false hF.out).symm,(by apply_rules[uUe,uUa,uUb,uUc,uUd])⟩
    ·have hF:=hid (hst.out (of_decide_eq_true he))
     go_wp2_with fail;go_quiet (fail);go_wp2;refine⟨⟨k+1,by omega,rfl,hF.out,HU.out.trans (by apply_rules[uUe,uUa,uUb,uUc,uUd])⟩,by simp[intOf];omega⟩
   ·obtain rfl:k=n:=by omega
    have hF:=hid (same_end HS.out HN.out HM.out);clear hlt;go_wp2;go_ret;exact⟨ret_bool (decide_eq_true hF.out).symm,HU.out⟩
 ·have hF:=hid (show ¬ f=g from fun e=>hnm (by rw[<- hn,<- hm,e]))
  have z:((n:Int)==(m:Int))=false:=by simp;omega
  clear hA hB hn hm;go_enter Tryz.func117,Tryz.ntmps117;go_wp2;go_ret;exact⟨ret_bool (decide_eq_false hF.out).symm,Und.refl _⟩
theorem isame_any(A B:Option Addr)(n m c d:Nat)(f g:List St.It)(w:World)(hn:f.length=n)(hm:g.length=m)(hc:n<=c)(hd:m<=d)(hc63:c<=9223372036854775807)(hd63:d<=9223372036854775807)(h:ItemsAt w A f)(h':ItemsAt w B g) :
  Calls Tryz.prog 63 #[.slice A n c,.slice B m d] w fun e w'=>e=.returned (.bool (decide (f=g)))/\Und w w':=by
 have HS:=hid (sequal_items A B n m c d f g w hn hm hc hd hc63 hd63 h h');clear h h';go_enter Tryz.func63,Tryz.ntmps63;go_wp2_with fail;refine HS.out.mono ?_;rintro e w' ⟨rfl,hu⟩;have HU:=hid hu;clear hu;go_wp2;go_ret;exact⟨rfl,HU.out⟩
end
end Go.Proofs.YtcfhfdphoidaeaaGreatDoor
namespace Go.Proofs.YtcfhfdphoidaeaaGreatDoor.Mz
open Go.RowKit
def ent:Nat->List (Int × Value)->List MapEntry
 | _,[]=>[]
 | n,p :: l=>{ key:=.int .i64 p.1,val:=p.2,born:=n } :: ent (n+1) l
theorem ent_push(p:Int × Value):∀ (l:List (Int × Value)) (n:Nat),ent n (l++[p])=ent n l++[{ key:=.int .i64 p.1,val:=p.2,born:=n+l.length }]
 | [],n=>by simp[ent]
 | q :: l,n=>by
  simp only[List.cons_append,ent,ent_push p l (n+1),List.length_cons];rw[show n+1+l.length=n+(l.length+1) by omega]
def look(k:Int):List (Int × Value)->Option Value
 | []=>none
 | p :: l=>if k=p.1 then some p.2 else look k l
theorem look_snoc(k:Int)(p:Int × Value)(l:List (Int × Value)):look k (l++[p])=match look k l with
  | some v=>some v
  | none=>if k=p.1 then some p.2 else none:=by
 induction l with
 | nil=>rfl
 | cons q l ih=>
  rw[List.cons_append,look,look]
  split
  ·rfl
  ·exact ih
theorem look_true(k:Int)(l:List Int):look k (l.map fun i=>(i,Value.bool true))=if k ∈ l then some (.bool true) else none:=by
 induction l with
 | nil=>rfl
 | cons i l ih=>
  rw[List.map_cons,look]
  by_cases h:k=i
  ·rw[if_pos h,if_pos (by simp[h])]
  ·rw[if_neg h,ih];simp[h]
theorem find_none(k:Int):∀ (l:List (Int × Value)) (n i:Nat),look k l=none->Instr.findNow (.int .i64) (.int .i64 k) (ent n l) i=some none
 | [],n,i,_=>rfl
 | p :: l,n,i,h=>by
  unfold look at h
  by_cases e:k=p.1
  ·rw[if_pos e] at h;simp at h
  ·rw[if_neg e] at h
   have e':(k==p.1)=false:=by simpa using e
   simp only[ent,Instr.findNow,Instr.sameNow,if_true,e'];exact find_none k l _ _ h
theorem find_some(k:Int)(v:Value):∀ (l:List (Int × Value)) (n i:Nat),look k l=some v->∃ j,Instr.findNow (.int .i64) (.int .i64 k) (ent n l) i=some (some (j,v))
 | [],n,i,h=>by simp[look] at h
 | p :: l,n,i,h=>by
  unfold look at h
  by_cases e:k=p.1
  ·rw[if_pos e] at h
   obtain rfl:p.2=v:=by simpa using h
   have e':(k==p.1)=true:=by simpa using e
   exact⟨i,by simp only[ent,Instr.findNow,Instr.sameNow,if_true,e']⟩
  ·rw[if_neg e] at h
   have e':(k==p.1)=false:=by simpa using e
   obtain⟨j,hj⟩:=find_some k v l (n+1) (i+1) h;exact⟨j,by simp only[ent,Instr.findNow,Instr.sameNow,if_true,e'];exact hj⟩
def At(w:World)(mb:Nat)(l:List (Int × Value)):Prop:=w.heap[mb]?=some (.map (ent 0 l).toArray l.length)
def put(w:World)(mb:Nat)(l:List (Int × Value)):World:={ w with heap:=w.heap.setIfInBounds mb (.map (ent 0 l).toArray l.length) }
theorem At.lt{w:World}{mb:Nat}{l:List (Int × Value)}(h:At w mb l):mb<w.heap.size:=lt_of_heap h
theorem At.und{a c:World}{mb:Nat}{l:List (Int × Value)}(h:At a mb l)(u:Und a c):At c mb l:=(u.below.block mb h.lt).trans h
theorem put_ne(w:World){mb b:Nat}(l:List (Int × Value))(h:b ≠ mb):(put w mb l).heap[b]?=w.heap[b]?:=by
 show (w.heap.setIfInBounds mb _)[b]?=_
 rw[Array.getElem?_setIfInBounds_ne (Ne.symm h)]
theorem put_at{w:World}{mb:Nat}{l0:List (Int × Value)}(h:At w mb l0)(l:List (Int × Value)):At (put w mb l) mb l:=by
 show (w.heap.setIfInBounds mb _)[mb]?=_
 have:=h.lt
 simp[this]
theorem put_size(w:World)(mb:Nat)(l:List (Int × Value)):(put w mb l).heap.size=w.heap.size:=by
 show (w.heap.setIfInBounds mb _).size=_;simp
theorem put_und{w W:World}{mb:Nat}(l:List (Int × Value))(h:Und w W)(hb:w.heap.size<=mb):Und w (put W mb l):=by
 have b:=h.below;exact Und.mk ⟨b.os,b.tape,b.output,by rw[put_size];exact b.size,fun k hk=>(put_ne W l (by omega)).trans (b.block k hk)⟩
theorem put_own{W:World}{mb B e size n:Nat}{v:Value}{xs:List Value}{l0:List (Int × Value)}(l:List (Int × Value))(h:W.ownsRow B e size v n xs)(ha:At W mb l0):(put W mb l).ownsRow B e size v n xs:=by
 refine⟨h.1,?_⟩;rcases h.2 with h0|⟨g,cap,cur,rfl,hb,hg,hr⟩
 ·exact .inl h0
 ·refine .inr ⟨g,cap,cur,rfl,hb,(put_ne W l fun e=>?_).trans hg,hr⟩
  subst e;rw[ha] at hg;cases hg
theorem grown_at{w w':World}{mb B e size n:Nat}{v:Value}{xs:List Value}{l:List (Int × Value)}(h:At w mb l)(hg:w.grownBy w' v.ownBlock)(ho:w.ownsRow B e size v n xs):At w' mb l:=by
 refine(hg.block mb h.lt fun e=>?_).trans h;rcases ho.2 with ⟨rfl,_⟩|⟨g,cap,cur,rfl,_,hgb,_⟩
 ·simp[Value.ownBlock] at e
 ·simp only[Value.ownBlock,Option.some.injEq] at e
  subst e;rw[h] at hgb;cases hgb
section
variable {T et:TypeId} (hm:Tryz.prog.underlying T=some (.map 3 et))
include hm
theorem run_put{w:World}{mb:Nat}{l:List (Int × Value)}{k:Int}(v:Value)(ha:At w mb l)(h:look k l=none) :
  (Instr.mapUpdate T (.map (some mb)) (.int .i64 k) v).run Tryz.prog w=.ok () (put w mb (l++[(k,v)])):=by
 have hd:Tryz.prog.underlying 3=some (.int .i64):=by kernel_rfl
 have hf:=find_none k l 0 0 h;have hk:MapKept.IsKey (.int .i64) (.int .i64 k):=by simp[MapKept.IsKey]
 simp[Instr.mapUpdate,run_underlying hm,MapKept.run_getObj_map ha,MapKept.run_checkKey hd hk,MapKept.run_findKey hd hf,MapKept.run_setObj_map _ ha,Result.andThen];simp[put,ent_push]
theorem run_get{w:World}{mb:Nat}{l:List (Int × Value)}{k:Int}{v:Value}(ok:Bool)(ha:At w mb l)(h:look k l=some v) :
  (Instr.lookup T (.map (some mb)) (.int .i64 k) ok).run Tryz.prog w=.ok (if ok then .tuple #[v,.bool true] else v) w:=by
 have hd:Tryz.prog.underlying 3=some (.int .i64):=by kernel_rfl
 obtain⟨j,hf⟩:=find_some k v l 0 0 h;have hk:MapKept.IsKey (.int .i64) (.int .i64 k):=by simp[MapKept.IsKey]
 cases ok <;> simp[Instr.lookup,run_underlying hm,MapKept.run_getObj_map ha,MapKept.run_checkKey hd hk,MapKept.run_findKey hd hf,Result.andThen]
theorem run_getno{w:World}{mb:Nat}{l:List (Int × Value)}{k:Int}{z:Value}(ok:Bool)(hz:(zeroValue et).run Tryz.prog w=.ok z w)(ha:At w mb l)(h:look k l=none) :
  (Instr.lookup T (.map (some mb)) (.int .i64 k) ok).run Tryz.prog w=.ok (if ok then .tuple #[z,.bool false] else z) w:=by
 have hd:Tryz.prog.underlying 3=some (.int .i64):=by kernel_rfl
 have hf:=find_none k l 0 0 h;have hk:MapKept.IsKey (.int .i64) (.int .i64 k):=by simp[MapKept.IsKey]
 cases ok <;> simp[Instr.lookup,run_underlying hm,MapKept.run_getObj_map ha,MapKept.run_checkKey hd hk,MapKept.run_findKey hd hf,hz,Result.andThen]
end
end Go.Proofs.YtcfhfdphoidaeaaGreatDoor.Mz
namespace Go.Proofs.YtcfhfdphoidaeaaGreatDoor
open Go.RowKit
section
def zc(l:List Int):List Value:=l.map (Value.int .i64)
theorem zc_snoc(l:List Int)(i:Int):zc (l++[i])=zc l++[.int .i64 i]:=by simp[zc]
theorem zc_row{w:World}{B n c:Nat}{A:Option Addr}{zs:List Int}(h:w.ownsRow B 3 1 (.slice A n c) n (zc zs))(hn:zs.length=n):IntsAt w A zs:=by
 intro h0;obtain⟨g,rfl,_,hg,hc⟩:=own_cell h (by omega);refine⟨g,0,rfl,hg,fun i hi=>?_⟩;rw[Nat.zero_add];exact hc i _ (by unfold zc;rw[List.getElem?_map,List.getElem?_eq_getElem hi];simp[List.getD_eq_getElem?_getD,hi])
theorem num_tk(f:List St.It)(k:Nat)(h:k<f.length):(f.take (k+1)).foldl St.addN []=St.addN ((f.take k).foldl St.addN []) f[k]:=by
 rw[List.take_add_one,List.getElem?_eq_getElem h,List.foldl_append];rfl
def INRel(w:World)(f:List St.It)(n mb:Nat)(s3 s10:Value)(wr:World):Prop:=
 ∃ (k:Nat) (l:List Int),k<=n/\s10=.int .i64 k/\l=(f.take k).foldl St.addN []/\l.length<=k/\wr.ownsRow w.heap.size 3 1 s3 l.length (zc l)/\Mz.At wr mb (l.map fun i=>(i,.bool true))/\Und w wr
theorem inum_any(A:Option Addr)(n c:Nat)(f:List St.It)(w:World)(hn:f.length=n)(h:ItemsAt w A f)(hl:n<=100000) :
  Calls Tryz.prog 23 #[.slice A n c] w fun e w'=>∃ v,e=.returned v/\(St.numL f).length<=n/\w'.ownsRow w.heap.size 3 1 v (St.numL f).length (zc (St.numL f))/\Und w w':=by
 have H:=hid h;have HN:=hid hn;obtain⟨ii,ki,kz0,kz1,kz2⟩:=info_parts info_int;have hm:Tryz.prog.underlying 146=some (.map 3 4):=by kernel_rfl
 have hmk:∀ W:World,(Instr.makeMap 146 none).run Tryz.prog W=.ok (.map (some W.heap.size)) (W.alloc (.map #[] 0)):=fun W=>rfl
 have HMP:=hid hm;have hzb:=hid (fun W:World=>(show (zeroValue 4).run Tryz.prog W=.ok (.bool false) W by go_simp));clear h hn hm;go_enter Tryz.func23,Tryz.ntmps23;go_wp2_with fail;go_loopw [3,10] (fun s3 s10 wr=>INRel w f n w.heap.size s3 s10 wr) (fun _ s10 _=>n+1-(intOf s10).toNat)
 case atStart=>exact⟨0,[],by omega,rfl,rfl,by simp,World.ownsRow_nil _ _ _ _,heap_alloc_new w _,(Und.refl w).alloc _⟩
 case round=>
  obtain⟨k,l,hk,rfl,hle,hll,hown,hat,hu⟩:=hrel;have HU:=hid hu;have hsz:=hu.size;have HOW:=hid hown;have HAT:=hid hat;have HLE:=hid hle;have hN:=HN.out;obtain⟨AO,cO,rfl,_⟩:=own_slice hown;clear hu hle hown hat hmk
  by_cases hlt:k<n
  ·have hlt2:k<f.length:=by omega
   obtain⟨b,off,rfl,hb,hc⟩:=(H.out.und HU.out) (by omega);obtain⟨c0,c1,c2⟩:=hc k hlt2;have hnt:=num_tk f k hlt2;rw[<- HLE.out] at hnt;generalize f[k]=x at c0 c1 c2 hnt;obtain⟨kd,tx,id⟩:=x;simp only at c0 c1 c2;have hit:=fun t W=>itag_any kd t id W
   have HNT:=hid hnt;haveI:LtW b wr:=LtW.of hb;clear hc hlt2 hnt;cases htg:St.isTagK kd
   ·rw[htg] at hit
    have HIT:=hid hit;have he:=hid (show St.addN l (kd,tx,id)=l by unfold St.addN;rw[if_neg (by simp[htg])]);clear hit htg;go_wp2_with fail;refine(HIT.out _ _).mono ?_;rintro e w3 ⟨rfl,hu3⟩;have HU3:=hid (Und.trans ((by apply_rules[uUe,uUa,uUb,uUc,uUd])) hu3:Und wr w3);clear hu3 c0 c1 c2;go_wp2;exact⟨⟨k+1,l,by omega,congrArg (Value.int .i64) (by omega),by rw[HNT.out,he.out],by omega,own_und HU3.out HOW.out,HAT.out.und HU3.out,HU.out.trans HU3.out⟩,by simp[intOf];omega⟩
   ·rw[htg] at hit
    have HIT:=hid hit;clear hit;go_wp2_with fail;refine(HIT.out _ _).mono ?_;rintro e w3 ⟨rfl,hu3⟩;have hu3':Und wr w3:=Und.trans ((by apply_rules[uUe,uUa,uUb,uUc,uUd])) hu3;have d2:w3.cell? ⟨wr.heap.size,2,none⟩=some (.int .i64 id):=(hu3.cell (p:=⟨wr.heap.size,2,none⟩) (by simp)).trans (by simp);haveI:LtW wr.heap.size w3:=LtW.of (zbL _ _ d2);have hat3:=HAT.out.und hu3';have HAT3:=hid hat3;have HU3:=hid hu3';have HOW3:=hid (own_und hu3' HOW.out);have hmlt:=hat3.lt;have hwsz:w.heap.size<wr.heap.size:=HAT.out.lt;clear hu3 hu3' c0 c1 c2
    by_cases hmem:id ∈ l
    ·have hlk:=Mz.run_get HMP.out false hat3 (show Mz.look id _=some (.bool true) by rw[Mz.look_true,if_pos hmem])
     simp only[Bool.false_eq_true,if_false] at hlk;have he:=hid (show St.addN l (kd,tx,id)=l by unfold St.addN;rw[if_neg (by rintro ⟨_,h⟩;exact h hmem)]);clear hmem htg hat3;go_wp2;exact⟨⟨k+1,l,by omega,congrArg (Value.int .i64) (by omega),by rw[HNT.out,he.out],by omega,HOW3.out,HAT3.out,HU.out.trans HU3.out⟩,by simp[intOf];omega⟩
    ·have hln:Mz.look id (l.map fun i=>(i,Value.bool true))=none:=by rw[Mz.look_true,if_neg hmem]
     have hlk:=Mz.run_getno HMP.out false (hzb.out w3) hat3 hln;simp only[Bool.false_eq_true,if_false] at hlk;have hpt:=Mz.run_put HMP.out (.bool true) hat3 hln;have he:=hid (show St.addN l (kd,tx,id)=l++[id] by unfold St.addN;rw[if_pos ⟨htg,hmem⟩]);have hml:(l.map fun i=>(i,Value.bool true))++[(id,Value.bool true)]=(l++[id]).map fun i=>(i,Value.bool true):=by simp
     rw[hml] at hpt;obtain⟨w4,hw4⟩:∃ w4,w4=Mz.put w3 w.heap.size ((l++[id]).map fun i=>(i,Value.bool true)):=⟨_,rfl⟩;have hu4:Und w w4:=by rw[hw4];exact Mz.put_und _ (HU.out.trans HU3.out) (Nat.le_refl _)
     have ho4:w4.ownsRow w.heap.size 3 1 (.slice AO l.length cO) l.length (zc l):=by rw[hw4];exact Mz.put_own _ HOW3.out hat3
     have hat4:Mz.At w4 w.heap.size ((l++[id]).map fun i=>(i,Value.bool true)):=by rw[hw4];exact Mz.put_at hat3 _
     have m2:w4.cell? ⟨wr.heap.size,2,none⟩=some (.int .i64 id):=(World.cell?_of_block (a:=⟨wr.heap.size,2,none⟩) (show w4.heap[wr.heap.size]?=w3.heap[wr.heap.size]? by rw[hw4];exact Mz.put_ne w3 _ (by omega))).trans d2;rw[<- hw4] at hpt;haveI:LtW wr.heap.size w4:=LtW.of (zbL _ _ m2);have HU4:=hid hu4;have HO4:=hid ho4;have HAT4:=hid hat4;have hs4:=hu4.size;clear hmem htg hat3 hln hml hw4 hu4 ho4 hat4;go_wp2_with (at_builtin;refine wpList_append_own _ rfl _ _ 22 rfl w.heap.size 3 ii (.int .i64 0) 1 8 Tryz.underlying22 ki kz0 kz1 kz2 rfl (by decide) (.slice AO l.length cO) l.length (zc l) rfl (HO4.out.alloc _) _ 1 1 [.int .i64 id] rfl rfl ?_ (by simp;rfl) (by unfold maxLen;omega) (by omega) ?_ ?_)
     ·exact side1b _ _ _
     ·simp;omega
     ·intro v' w5 ho5 hg5 _
      rw[<- zc_snoc] at ho5;have hat5:=Mz.grown_at (HAT4.out.und ((Und.refl w4).alloc (.cells #[.int .i64 id] 3))) hg5 (HO4.out.alloc _);have hu5:Und w w5:=(HU4.out.alloc _).grown hg5 (fun g hg=>owns_block HO4.out g hg);have HE:=hid (show INRel w f n w.heap.size v' (.int .i64 ((k:Int)+1)) w5 from⟨k+1,l++[id],by omega,congrArg (Value.int .i64) (by omega),by rw[HNT.out,he.out],by simp;omega,by rw[List.length_append,List.length_singleton];exact ho5,hat5,hu5⟩);clear ho5 hg5 hu5 hat5;go_wp2;exact⟨HE.out,by simp[intOf];omega⟩
  ·have hkn:k=n:=by omega
   subst hkn;have hft:f.take k=f:=List.take_of_length_le (by omega);have hl2:l=St.numL f:=by rw[HLE.out,hft];rfl
   subst hl2;clear hlt hft HLE;go_wp2;go_ret;exact⟨_,rfl,hll,HOW.out,HU.out⟩
end
section
theorem make_ints(N:Nat)(hN:N<=1000000):∃ cs:Array Value,(∀ W:World,(Instr.makeSlice 22 (.int .i64 (N:Int)) (.int .i64 (N:Int))).run Tryz.prog W=.ok (.slice (some ⟨W.heap.size,0,none⟩) N N) (W.alloc (.cells cs 3)))/\cs.size=N:=by
 obtain⟨i,hi,hz0,hz1,hz2⟩:=info_parts info_int;refine⟨madeCells (Value.cells (.int .i64 0)) (N*i.size),fun W=>?_,?_⟩
 ·have:=run_make (P:=Tryz.prog) W 22 3 i (.int .i64 0) Tryz.underlying22 hi hz0 .i64 .i64 (N:Int) (N:Int) (by omega) (by omega) (by rw[hz2];omega) (by omega)
  simpa using this
 ·rw[size_madeCells,hz1,Nat.mul_one]
def CtRel(w:World)(n:Nat)(s9:Value)(wr:World):Prop:=
 ∃ (i:Nat) (cur:Array Value),s9=.int .i64 i/\i<=n/\wr.heap[w.heap.size]?=some (.cells cur 3 (0,0))/\cur.size=n/\(∀ j,j<i->cur[j]?=some (.int .i64 ((j:Int)+1)))/\Und w wr
theorem upL_get{q p:Nat}(h:p<q):(St.upL q).getD p 0=(p:Int)+1:=by
 unfold St.upL;rw[List.getD_eq_getElem?_getD,List.getElem?_map,List.getElem?_range h];rfl
theorem icount_any(n:Nat)(w:World)(hn:n<=100000) :
  Calls Tryz.prog 26 #[.int .i64 (n:Int)] w fun e w'=>∃ A c,e=.returned (.slice A n c)/\IntsAt w' A (St.upL n)/\n<=c/\c<=9223372036854775807/\Und w w':=by
 obtain⟨cz,hmk,hcz⟩:=make_ints n (by omega);go_enter Tryz.func26,Tryz.ntmps26;go_wp2_with fail;go_loopw [9] (fun s9 wr=>CtRel w n s9 wr) (fun s9 _=>n+1-(intOf s9).toNat)
 case atStart=>exact⟨0,cz,rfl,by omega,heap_alloc_new w _,hcz,fun j hj=>absurd hj (by omega),(Und.refl w).alloc _⟩
 case round=>
  obtain⟨i,cur,rfl,hi,hh,hc,hj,hu⟩:=hrel;have HU:=hid hu;have HH:=hid hh;have HJ:=hid hj;have HC:=hid hc;haveI:LtW w.heap.size wr:=LtW.of (lt_of_heap hh)
  by_cases hlt:i<n
  ·obtain⟨x0,g0⟩:∃ x0,wr.cell? ⟨w.heap.size,i,none⟩=some x0:=⟨cur[i]'(by omega),by rw[zcH hh i,Array.getElem?_eq_getElem]⟩
   have f0:wr.frozen? ⟨w.heap.size,i,none⟩=false:=zfH hh i
   have hfin:=hid (show CtRel w n (.int .i64 ((i:Int)+1)) (wr.setCell ⟨w.heap.size,i,none⟩ (.int .i64 ((i:Int)+1))) from
    ⟨i+1,cur.setIfInBounds i (.int .i64 ((i:Int)+1)),congrArg (Value.int .i64) (by omega),by omega,heap_setCell_same wr w.heap.size i _ _ _ hh,by simp[hc],fun j hj'=>by
     by_cases e:j=i
     ·subst e;rw[Array.getElem?_setIfInBounds_self_of_lt (by omega)]
     ·rw[Array.getElem?_setIfInBounds_ne (by omega)];exact HJ.out j (by omega),Und.mk (HU.out.below.setCell (p:=⟨w.heap.size,i,none⟩) (Nat.le_refl _) _)⟩)
   clear hu hh hj hc;go_wp2;exact⟨hfin.out,by simp[intOf];omega⟩
  ·obtain rfl:i=n:=by omega
   have hfin:=hid (show IntsAt wr (some ⟨w.heap.size,0,none⟩) (St.upL i) from fun _=>⟨w.heap.size,0,rfl,lt_of_heap hh,fun j hj'=>by
    rw[St.upL_len] at hj'
    rw[Nat.zero_add,zcH hh j,hj j hj',upL_get hj']⟩)
   clear hu hh hj hc hlt;go_wp2;go_ret;exact⟨_,_,rfl,hfin.out,Nat.le_refl _,by omega,HU.out⟩
def NwAt(W:World)(mb:Nat)(F:List Int)(j:Nat):Prop:=∃ l,Mz.At W mb l/\∀ i,Mz.look i l=if i ∈ F.drop j then some (.int .i64 ((F.idxOf i:Int)+1)) else none
theorem NwAt.und{a c:World}{mb j:Nat}{F:List Int}(h:NwAt a mb F j)(u:Und a c):NwAt c mb F j:=by
 obtain⟨l,h1,h2⟩:=h;exact⟨l,h1.und u,h2⟩
def NwRel(w:World)(F:List Int)(s8:Value)(wr:World):Prop:=∃ j:Nat,s8=.int .i64 ((j:Int)-1)/\j<=F.length/\NwAt wr w.heap.size F j/\Und w wr
def RmRel(w:World)(f:List St.It)(F:List Int)(n:Nat)(s9 s36:Value)(wr:World):Prop:=
 ∃ k:Nat,k<=n/\s36=.int .i64 k/\wr.ownsRow w.heap.size 66 3 s9 k (cellsIt ((f.take k).map (St.renI F)))/\NwAt wr w.heap.size F 0/\Und w wr
theorem ren_snoc(f:List St.It)(F:List Int)(k:Nat)(h:k<f.length):cellsIt ((f.take (k+1)).map (St.renI F))=cellsIt ((f.take k).map (St.renI F))++[.int .i64 (St.renI F f[k]).1,.string ⟨(St.renI F f[k]).2.1.toArray⟩,.int .i64 (St.renI F f[k]).2.2]:=by
 rw[List.take_add_one,List.getElem?_eq_getElem h,List.map_append];exact cellsIt_snoc _ _
theorem ren_tot(f:List St.It)(F:List Int):tot (f.map (St.renI F))=tot f:=by
 unfold tot;rw[List.map_map];congr 1;refine List.map_congr_left fun x _=>?_
 show (St.renI F x).2.1.length=_
 unfold St.renI;split <;> rfl
theorem iren_any(A B C:Option Addr)(n c q d e0:Nat)(f:List St.It)(F:List Int)(w:World)(hn:f.length=n)(hq:F.length=q)(h:ItemsAt w A f)(hB:IntsAt w B F)(hC:IntsAt w C (St.upL q))(hnd:F.Nodup)(hall:∀ x ∈ f,St.isTagK x.1=true->x.2.2 ∈ F)(hl:n<=100000)(hql:q<=100000)(ht:tot f<=1000000000000) :
  Calls Tryz.prog 25 #[.slice A n c,.slice B q d,.slice C q e0] w fun e w'=>∃ v,e=.returned v/\w'.ownsRow w.heap.size 66 3 v (St.normL (f.map (St.renI F))).length (cellsIt (St.normL (f.map (St.renI F))))/\Und w w':=by
 have H:=hid h;have HN:=hid hn;have HQ:=hid hq;have HB:=hid hB;have HC:=hid hC;have HND:=hid hnd;have HALL:=hid hall;have HT:=hid ht;have hm:Tryz.prog.underlying 149=some (.map 3 3):=by kernel_rfl
 have hmk:∀ W:World,(Instr.makeMap 149 none).run Tryz.prog W=.ok (.map (some W.heap.size)) (W.alloc (.map #[] 0)):=fun W=>rfl
 have HMP:=hid hm;obtain⟨i0,hi,hz0,hz1,hz2⟩:=info_parts info_item;clear h hn hq hB hC hnd hall ht hm;have hmn:min (q:Int) (q:Int)=(q:Int):=by omega
 go_enter Tryz.func25,Tryz.ntmps25;go_wp2_with fail;go_loopw [8] (fun s8 wr=>NwRel w F s8 wr) (fun s8 _=>(intOf s8+1).toNat)
 case atStart=>exact⟨q,rfl,by rw[HQ.out];omega,⟨[],heap_alloc_new w _,fun i=>by rw[List.drop_of_length_le (by rw[HQ.out];omega)];rfl⟩,(Und.refl w).alloc _⟩
 case round=>
  obtain⟨j,rfl,hj,hnw,hu⟩:=hrel;have HU:=hid hu;have hQ:=HQ.out
  by_cases hj0:0<j
  ·obtain⟨m,rfl⟩:∃ m,j=m+1:=⟨j-1,by omega⟩
   have z1:((m+1:Nat):Int)-1=(m:Int):=by omega
   have z2:(0:Int)<=(m:Int):=by omega
   have z3:(m:Int)<(q:Int):=by omega
   obtain⟨b1,o1,rfl,hb1,hc1⟩:=(HB.out.und hu) (by omega);obtain⟨b2,o2,rfl,hb2,hc2⟩:=(HC.out.und hu) (by rw[St.upL_len];omega);have e1:=hc1 m (by omega);have e2:=hc2 m (by rw[St.upL_len];omega);rw[upL_get (by omega)] at e2;have hmf:m<F.length:=by omega
   have hfm:F.getD m 0=F[m]:=by rw[List.getD_eq_getElem?_getD,List.getElem?_eq_getElem hmf];rfl
   have hdr:F.drop m=F[m] :: F.drop (m+1):=List.drop_eq_getElem_cons hmf;have hix:F.idxOf F[m]=m:=HND.out.idxOf_getElem m hmf
   have hnm:F[m] ∉ F.drop (m+1):=by
    have hs:(F.drop m).Nodup:=HND.out.sublist (List.drop_sublist _ _);rw[hdr] at hs;exact(List.nodup_cons.1 hs).1
   rw[hfm] at e1;obtain⟨l,hat,hlk⟩:=hnw;have hln:Mz.look F[m] l=none:=by rw[hlk,if_neg hnm]
   have hdw:Mz.At wr.drew w.heap.size l:=hat;have hpt:=Mz.run_put HMP.out (.int .i64 ((m:Int)+1)) hdw hln
   have hfin:=hid (show NwRel w F (.int .i64 ((m:Int)-1)) (Mz.put wr.drew w.heap.size (l++[(F[m],.int .i64 ((m:Int)+1))])) from
    ⟨m,rfl,by omega,⟨_,Mz.put_at hdw _,fun i=>by
     rw[Mz.look_snoc,hlk,hdr]
     by_cases h1:i ∈ F.drop (m+1)
     ·rw[if_pos h1,if_pos (List.mem_cons_of_mem _ h1)]
     ·rw[if_neg h1]
      by_cases h2:i=F[m]
      ·simp only[if_pos h2]
       rw[if_pos (by rw[h2];exact List.mem_cons_self),h2,hix]
      ·simp only[if_neg h2]
       rw[if_neg (by intro e;rcases List.mem_cons.1 e with e|e;exact h2 e;exact h1 e)]⟩,Mz.put_und _ (HU.out.drew) (Nat.le_refl _)⟩)
   generalize F[m]=fm at e1 hpt hfin;haveI:LtW b1 wr:=LtW.of hb1;haveI:LtW b2 wr:=LtW.of hb2;clear hu hc1 hc2 hat hlk hln hfm hdr hix hnm hdw;rw[z1];go_wp2_with fail;go_region_law (fail)
   all_goals
    go_wp2;exact⟨hfin.out,by first|(simp[intOf];done)|(simp[intOf];omega)⟩
  ·obtain rfl:j=0:=by omega
   have HNW:=hid hnw;have z1:¬ (0:Int)<=((0:Nat):Int)-1:=by omega
   clear hu hnw hj0 hmk;go_wp2_with fail;go_loopw [9,36] (fun s9 s36 wr=>RmRel w f F n s9 s36 wr) (fun _ s36 _=>n+1-(intOf s36).toNat)
   case atStart=>exact⟨0,by omega,rfl,World.ownsRow_nil _ _ _ _,HNW.out,HU.out⟩
   case round=>
    clear HNW HU;obtain⟨k,hk,rfl,hown,hnw,hu⟩:=hrel;have HU:=hid hu;have hsz:=hu.size;have HOW:=hid hown;have HNW:=hid hnw;have hN:=HN.out;obtain⟨AO,cO,rfl,_⟩:=own_slice hown;clear hu hnw
    by_cases hlt:k<n
    ·clear hown
     have hlt2:k<f.length:=by omega
     obtain⟨b,off,rfl,hb,hc⟩:=(H.out.und HU.out) (by omega);obtain⟨c0,c1,c2⟩:=hc k hlt2;have hsn:=ren_snoc f F k hlt2;have hal:=HALL.out f[k] (List.getElem_mem hlt2);generalize f[k]=x at c0 c1 c2 hsn hal;obtain⟨kd,tx,id⟩:=x;simp only at c0 c1 c2 hal;have hit:=fun t W=>itag_any kd t id W
     haveI:LtW b wr:=LtW.of hb
     have hbb:∀ (i:Int) (v':Value) (w4:World),St.renI F (kd,tx,id)=(kd,tx,i)->w4.ownsRow w.heap.size 66 3 v' (k+1) (cellsIt ((f.take k).map (St.renI F))++[.int .i64 kd,.string ⟨tx.toArray⟩,.int .i64 i])->NwAt w4 w.heap.size F 0->Und w w4->RmRel w f F n v' (.int .i64 ((k:Int)+1)) w4:=fun i v' w4 e h1 h2 h3=>
      ⟨k+1,by omega,congrArg (Value.int .i64) (by omega),by rw[hsn,e];exact h1,h2,h3⟩
     have HFIN:=hid hbb;clear hc hlt2 hsn hbb;cases hkd:St.isTagK kd
     ·rw[hkd] at hit
      have HIT:=hid hit;have hre:=hid (show St.renI F (kd,tx,id)=(kd,tx,id) by unfold St.renI;rw[if_neg (by simp[hkd])]);clear hit hkd hal;go_wp2_with fail;refine(HIT.out _ _).mono ?_;rintro e w3 ⟨rfl,hu3⟩;have hu3':Und wr w3:=Und.trans ((by apply_rules[uUe,uUa,uUb,uUc,uUd])) hu3;have d0:w3.cell? ⟨wr.heap.size,0,none⟩=some (.int .i64 kd):=(hu3.cell (p:=⟨wr.heap.size,0,none⟩) (by simp)).trans (by simp);have d1:w3.cell? ⟨wr.heap.size,1,none⟩=some (.string ⟨tx.toArray⟩):=(hu3.cell (p:=⟨wr.heap.size,1,none⟩) (by simp)).trans (by simp);have d2:w3.cell? ⟨wr.heap.size,2,none⟩=some (.int .i64 id):=(hu3.cell (p:=⟨wr.heap.size,2,none⟩) (by simp)).trans (by simp);haveI:LtW wr.heap.size w3:=LtW.of (zbL _ _ d0);have HU3:=hid (HU.out.trans hu3');have HOW3:=hid (own_und hu3' HOW.out);have HNW3:=hid (HNW.out.und hu3');have hs3:=HU3.out.size;clear hu3 hu3' c0 c1 c2;go_wp2_with (at_builtin;refine wpList_append_own _ rfl _ _ 24 rfl w.heap.size 66 i0 (.agg #[.int .i64 0,.string ⟨#[]⟩,.int .i64 0]) 3 32 Tryz.underlying24 hi hz0 hz1 hz2 rfl (by decide) (.slice AO k cO) k _ rfl (HOW3.out.alloc _) _ 1 1 [.int .i64 kd,.string ⟨tx.toArray⟩,.int .i64 id] rfl rfl ?_ (item_one _ _ _) (by unfold maxLen;omega) (by omega) ?_ ?_)
      all_goals try exact side3b _ _ _ _ _ _ rfl
      all_goals try (simp;omega;done)
      ·intro v' w4 hown' hgrow _
       have HE:=hid (HFIN.out id v' w4 hre.out (by rw[List.map_take];exact hown') (by obtain⟨l,h1,h2⟩:=HNW3.out;exact⟨l,Mz.grown_at (h1.und ((Und.refl w3).alloc _)) hgrow (HOW3.out.alloc _),h2⟩) ((HU3.out.alloc _).grown hgrow (fun g hg=>owns_block HOW3.out g hg)));clear hown' hgrow;go_wp2;exact⟨HE.out,by simp[intOf];omega⟩
     ·rw[hkd] at hit
      have HIT:=hid hit;have hin:=hal hkd;obtain⟨nid,hnid⟩:∃ nid:Int,nid=(F.idxOf id:Int)+1:=⟨_,rfl⟩;have hre:=hid (show St.renI F (kd,tx,id)=(kd,tx,nid) by unfold St.renI;rw[if_pos (by simp[hkd]),hnid]);clear hit hkd hal;go_wp2_with fail;refine(HIT.out _ _).mono ?_;rintro e w3 ⟨rfl,hu3⟩;have hu3':Und wr w3:=Und.trans ((by apply_rules[uUe,uUa,uUb,uUc,uUd])) hu3;have hb3:=(hu3.below.block wr.heap.size (by simp)).trans (heap_alloc_new wr (.cells #[.int .i64 kd,.string ⟨tx.toArray⟩,.int .i64 id] 66));have d0:w3.cell? ⟨wr.heap.size,0,none⟩=some (.int .i64 kd):=zcH hb3 0;have d1:w3.cell? ⟨wr.heap.size,1,none⟩=some (.string ⟨tx.toArray⟩):=zcH hb3 1;have d2:w3.cell? ⟨wr.heap.size,2,none⟩=some (.int .i64 id):=zcH hb3 2;have f2:w3.frozen? ⟨wr.heap.size,2,none⟩=false:=zfH hb3 2;haveI:LtW wr.heap.size w3:=LtW.of (lt_of_heap hb3);have HU3:=hid (HU.out.trans hu3');have HOW3:=hid (own_und hu3' HOW.out);have hnw3:=HNW.out.und hu3';obtain⟨l,hat,hlk⟩:=hnw3;have hget:=Mz.run_get HMP.out true hat (show Mz.look id l=some (.int .i64 nid) by rw[hlk,if_pos (by simpa using hin),hnid]);simp only[if_true] at hget;have hs3:=HU3.out.size;have hmlt:w.heap.size<wr.heap.size:=by obtain⟨l0,h1,_⟩:=HNW.out;exact h1.lt
      have hset:Und w (w3.setCell ⟨wr.heap.size,2,none⟩ (.int .i64 nid)):=Und.mk (HU3.out.below.setCell (p:=⟨wr.heap.size,2,none⟩) hsz _);have hsetO:(w3.setCell ⟨wr.heap.size,2,none⟩ (.int .i64 nid)).ownsRow w.heap.size 66 3 (.slice AO k cO) k (cellsIt ((f.take k).map (St.renI F))):=own_set HOW3.out (fun e=>by have:=(HOW.out.lt _ e).2;omega);have hsetN:Mz.At (w3.setCell ⟨wr.heap.size,2,none⟩ (.int .i64 nid)) w.heap.size l:=(Below.heap_setCell w3 ⟨wr.heap.size,2,none⟩ _ w.heap.size (by simp;omega)).trans hat;have HSE:=hid (And.intro hset (And.intro hsetO hsetN));have HLK:=hid hlk;clear hu3 hu3' c0 c1 c2 hb3 hset hsetO hsetN hat hlk hin hnid;go_wp2_with (at_builtin;refine wpList_append_own _ rfl _ _ 24 rfl w.heap.size 66 i0 (.agg #[.int .i64 0,.string ⟨#[]⟩,.int .i64 0]) 3 32 Tryz.underlying24 hi hz0 hz1 hz2 rfl (by decide) (.slice AO k cO) k _ rfl (HSE.out.2.1.alloc _) _ 1 1 [.int .i64 kd,.string ⟨tx.toArray⟩,.int .i64 nid] rfl rfl ?_ (item_one _ _ _) (by unfold maxLen;omega) (by omega) ?_ ?_)
      all_goals try exact side3b _ _ _ _ _ _ (by first|rfl|(simp;done))
      all_goals try (simp;omega;done)
      ·intro v' w4 hown' hgrow _
       have HE:=hid (HFIN.out nid v' w4 hre.out (by rw[List.map_take];exact hown') ⟨l,Mz.grown_at (HSE.out.2.2.und ((Und.refl _).alloc _)) hgrow (HSE.out.2.1.alloc _),HLK.out⟩ ((HSE.out.1.alloc _).grown hgrow (fun g hg=>owns_block HOW3.out g hg)));clear hown' hgrow;go_wp2;exact⟨HE.out,by simp[intOf];omega⟩
    ·have hkn:k=n:=by omega
     subst hkn;have hft:f.take k=f:=List.take_of_length_le (by omega);rw[hft] at hown;have hno:=inorm_any AO k cO (f.map (St.renI F)) wr (by simp;omega) (items_own hown (by simp;omega)) (by omega) (by rw[ren_tot];exact HT.out);have HNO:=hid hno;clear hlt hown hno hft;go_wp2_with fail;refine HNO.out.mono ?_;rintro e w5 ⟨v,rfl,ho,hu5⟩;have HE:=hid (And.intro (own_low ho (by omega)) (HU.out.trans hu5));clear ho hu5;go_wp2;go_ret;exact⟨v,rfl,HE.out.1,HE.out.2⟩
theorem numL_nodup(f:List St.It):(St.numL f).Nodup/\∀ x ∈ f,St.isTagK x.1=true->x.2.2 ∈ St.numL f:=by
 have key:∀ (f:List St.It) (l:List Int),l.Nodup->(f.foldl St.addN l).Nodup/\(∀ i ∈ l,i ∈ f.foldl St.addN l)/\∀ x ∈ f,St.isTagK x.1=true->x.2.2 ∈ f.foldl St.addN l:=by
  intro f
  induction f with
  | nil=>exact fun l hl=>⟨hl,fun i hi=>hi,fun x hx=>by cases hx⟩
  | cons y f ih=>
   intro l hl;rw[List.foldl_cons]
   have h1:(St.addN l y).Nodup/\(∀ i ∈ l,i ∈ St.addN l y)/\(St.isTagK y.1=true->y.2.2 ∈ St.addN l y):=by
    unfold St.addN
    split
    ·rename_i h
     refine⟨?_,fun i hi=>by simp[hi],fun _=>by simp⟩;rw[List.nodup_append];refine⟨hl,by simp,fun a ha b hb=>?_⟩;simp at hb;subst hb;intro e;subst e;exact h.2 ha
    ·rename_i h
     exact⟨hl,fun i hi=>hi,fun ht=>Classical.byContradiction fun hc=>h ⟨ht,hc⟩⟩
   obtain⟨g1,g2,g3⟩:=ih _ h1.1;refine⟨g1,fun i hi=>g2 i (h1.2.1 i hi),fun x hx ht=>?_⟩;rcases List.mem_cons.1 hx with rfl|hx
   ·exact g2 _ (h1.2.2 ht)
   ·exact g3 x hx ht
 obtain⟨h1,_,h3⟩:=key f [] List.nodup_nil;exact⟨h1,h3⟩
theorem irenum_any(A:Option Addr)(n c:Nat)(f:List St.It)(w:World)(hn:f.length=n)(h:ItemsAt w A f)(hl:n<=100000)(ht:tot f<=1000000000000) :
  Calls Tryz.prog 64 #[.slice A n c] w fun e w'=>∃ v,e=.returned v/\w'.ownsRow w.heap.size 66 3 v (St.renumL f).length (cellsIt (St.renumL f))/\Und w w':=by
 have H1:=hid (inum_any A n c f w hn h hl);have H:=hid h;obtain⟨hnd,hall⟩:=numL_nodup f;have HND:=hid hnd;have HALL:=hid hall;clear h hnd hall;go_enter Tryz.func64,Tryz.ntmps64;go_wp2_with fail;refine H1.out.mono ?_;rintro e w2 ⟨v2,rfl,hqn,ho2,hu2⟩;obtain⟨A2,c2,rfl,_,_,_⟩:=own_slice' ho2;have HU2:=hid hu2;have HI2:=hid (zc_row ho2 rfl);have HUP:=hid (fun W=>icount_any (St.numL f).length W (by omega));clear hu2 ho2 H1;go_wp2_with fail;refine(HUP.out _).mono ?_;rintro e w3 ⟨A3,c3,rfl,hI3,_,_,hu3⟩;have hr:=iren_any A A2 A3 n c (St.numL f).length c2 c3 f (St.numL f) w3 hn rfl (H.out.und (HU2.out.trans hu3)) (HI2.out.und hu3) hI3 HND.out HALL.out hl (by omega) ht;have HR:=hid hr;have HU3:=hid (HU2.out.trans hu3);clear hr hI3 hu3;go_wp2_with fail;refine HR.out.mono ?_;rintro e w4 ⟨v,rfl,ho,hu4⟩;have HE:=hid (And.intro (own_low ho (by have:=HU3.out.size;omega)) (HU3.out.trans hu4));clear ho hu4;go_wp2;go_ret;exact⟨v,rfl,HE.out.1,HE.out.2⟩
end
end Go.Proofs.YtcfhfdphoidaeaaGreatDoor
