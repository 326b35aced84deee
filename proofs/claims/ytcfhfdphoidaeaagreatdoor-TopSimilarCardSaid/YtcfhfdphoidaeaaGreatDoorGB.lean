/- The contract of the reference's Normalize: what it gives is St.normL. -/
import Derived.Test.YtcfhfdphoidaeaaGreatDoorGA
import Derived.Laws.OwnMore
import Derived.Laws.AppendOwnNone
import Derived.Deep.QuietTactic
import Derived.BigQuiet
set_option linter.unusedVariables false
set_option linter.unusedSimpArgs false
set_option maxHeartbeats 12800000
set_option maxRecDepth 20000
namespace Go.Proofs.YtcfhfdphoidaeaaGreatDoor
open Go.RowKit
section
theorem cells_len(f:List St.It):(cellsIt f).length=f.length*3:=by
 induction f with
 | nil=>rfl
 | cons x f ih=>simp[cellsIt] at ih ⊢;omega
def NoRel(w:World)(f:List St.It)(s3 s9:Value)(wr:World):Prop:=
 ∃ k:Nat,k<=f.length/\s9=.int .i64 k/\wr.ownsRow w.heap.size 66 3 s3 (St.normL (f.take k)).length (cellsIt (St.normL (f.take k)))/\tot (St.normL (f.take k))<=tot (f.take k)/\Und w wr
theorem own_last{w:World}{B g n c:Nat}{o:List St.It}{y z:St.It}(h:w.ownsRow B 66 3 (.slice (some ⟨g,0,none⟩) n c) n (cellsIt (o++[y])))(hn:o.length+1=n) :
  (((w.setCell ⟨g,o.length*3,none⟩ (.int .i64 z.1)).setCell ⟨g,o.length*3+1,none⟩ (.string ⟨z.2.1.toArray⟩)).setCell ⟨g,o.length*3+2,none⟩ (.int .i64 z.2.2)).ownsRow B 66 3 (.slice (some ⟨g,0,none⟩) n c) n (cellsIt (o++[z])) /\
  w.grownBy (((w.setCell ⟨g,o.length*3,none⟩ (.int .i64 z.1)).setCell ⟨g,o.length*3+1,none⟩ (.string ⟨z.2.1.toArray⟩)).setCell ⟨g,o.length*3+2,none⟩ (.int .i64 z.2.2)) (some g):=by
 have h1:=h.stored (o.length*3) (.int .i64 z.1);have h2:=h1.1.stored (o.length*3+1) (.string ⟨z.2.1.toArray⟩);have h3:=h2.1.stored (o.length*3+2) (.int .i64 z.2.2);refine⟨?_,gb_trans (gb_trans h1.2 h2.2 (fun g e=>Or.inl e)) h3.2 (fun g e=>Or.inl e)⟩
 have e:cellsIt (o++[z])=((((cellsIt (o++[y])).set (o.length*3) (.int .i64 z.1)).set (o.length*3+1) (.string ⟨z.2.1.toArray⟩)).set (o.length*3+2) (.int .i64 z.2.2)):=by
  rw[cellsIt_snoc,cellsIt_snoc];have hl:=cells_len o;rw[List.set_append_right _ _ (by omega),List.set_append_right _ _ (by omega),List.set_append_right _ _ (by omega)];congr 1;rw[show o.length*3-(cellsIt o).length=0 by omega,show o.length*3+1-(cellsIt o).length=1 by omega,show o.length*3+2-(cellsIt o).length=2 by omega];rfl
 rw[e];exact h3.1
theorem normalize_any(A:Option Addr)(n c:Nat)(f:List St.It)(w:World)(hn:f.length=n)(h:ItemsAt w A f)(hl:n<=100000)(ht:tot f<=4611686018427387904) :
  Calls Tryz.prog 71 #[.slice A n c] w fun e w'=>∃ v,e=.returned v/\w'.ownsRow w.heap.size 66 3 v (St.normL f).length (cellsIt (St.normL f))/\Und w w':=by
 have H:=hid h;have HN:=hid hn;have HTT:=hid ht;obtain⟨i0,hi,hz0,hz1,hz2⟩:=info_parts info_item;clear h hn ht;go_enter Tryz.func71,Tryz.ntmps71;go_wp2;go_loopw [3,9] (fun s3 s9 wr=>NoRel w f s3 s9 wr) (fun _ s9 _=>n+1-(intOf s9).toNat)
 case atStart=>exact⟨0,by omega,rfl,World.ownsRow_nil _ _ _ _,by simp[St.normL,tot],Und.refl _⟩
 case round=>
  obtain⟨k,hk,rfl,hown,htt,hu⟩:=hrel;have HU:=hid hu;have hsz:=hu.size
  by_cases hlt:k<n
  ·have hlt2:k<f.length:=by rw[HN.out];exact hlt
   obtain⟨b,off,rfl,hb,hc⟩:=(H.out.und HU.out) (by omega);obtain⟨c0,c1,c2⟩:=hc k hlt2;have hnt:=norm_take f k hlt2;have htk:=tot_take f k hlt2;have hle:=tot_le f (k+1)
   have holen:(St.normL (f.take k)).length<=100000:=by
    have:=St.normL_len (f.take k)
    simp at this;omega
   generalize f[k]=x at c0 c1 c2 hnt htk;obtain⟨kd,tx,id⟩:=x;simp only at c0 c1 c2 htk;have hta:=tot_add (St.normL (f.take k)) (kd,tx,id);generalize hO:St.normL (f.take k)=O at hown htt hnt holen hta;obtain⟨AO,cO,rfl,_⟩:=own_slice hown;have HOW:=hid hown;have HNT:=hid hnt;have HTA:=hid hta;have HTK:=hid htk;have HLE:=hid hle;have HT2:=hid htt;haveI:LtW b wr:=LtW.of hb;generalize hol:O.length=m at hown HOW holen ⊢;clear hc hown hu hnt hta htk hle htt hO
   by_cases hkd:kd=1
   ·subst hkd
    by_cases htx:tx=[]
    ·subst htx
     have hadd:St.addI O (1,[],id)=O:=by unfold St.addI;simp
     have hrel:NoRel w f (.slice AO m cO) (.int .i64 ((k+1:Nat):Int)) (wr.alloc (.cells #[.int .i64 1,.string ⟨#[]⟩,.int .i64 id] 66)):=by
      refine⟨k+1,by omega,rfl,?_,?_,HU.out.alloc _⟩
      ·rw[HNT.out,hadd,hol];exact HOW.out.alloc _
      ·rw[HNT.out];have h1:=HTA.out;have h2:=HTK.out;have:=HT2.out;simp only[List.length_nil] at h1 h2;omega
     have HREL:=hid hrel;clear hadd hrel;go_wp2;exact⟨by simpa using HREL.out,by simp[intOf];omega⟩
    ·have hne:((⟨tx.toArray⟩:ByteArray).toList==[])=false:=by
      rw[Lib.toList_data];simpa using htx
     have hne2:tx.isEmpty=false:=by simpa using htx
     rcases St.snoc_cases O with hO|⟨o,y,hO⟩
     ·subst hO
      have hm0:m=0:=by rw[<- hol];rfl
      subst hm0;have HADD:=hid (show St.addI [] (1,tx,id)=[]++[(1,tx,0)] by rw[St.addI_nil];simp[htx]);clear htx;go_wp2_with (at_builtin;refine wpList_append_own _ rfl _ _ 24 rfl w.heap.size 66 i0 (.agg #[.int .i64 0,.string ⟨#[]⟩,.int .i64 0]) 3 32 Tryz.underlying24 hi hz0 hz1 hz2 rfl (by decide) (.slice AO 0 cO) 0 _ rfl ((HOW.out.alloc _).alloc _) _ 1 1 [.int .i64 1,.string ⟨tx.toArray⟩,.int .i64 0] rfl rfl ?_ (item_one _ _ _) (by unfold maxLen;omega) (by omega) ?_ ?_)
      ·omega
      ·intro v' w4 hown' hgrow _
       have hrel:NoRel w f v' (.int .i64 ((k+1:Nat):Int)) w4:=by
        refine⟨k+1,by omega,rfl,?_,?_,((HU.out.alloc _).alloc _).grown hgrow (fun g hg=>owns_block HOW.out g hg)⟩
        ·rw[HNT.out,HADD.out,cellsIt_snoc,List.length_append,List.length_singleton,hol];exact hown'
        ·rw[HNT.out];have:=HTA.out;have:=HTK.out;have:=HT2.out;omega
       have HREL:=hid hrel;clear hown' hgrow hrel;go_wp2;exact⟨by simpa using HREL.out,by simp[intOf];omega⟩
     ·subst hO
      obtain⟨l,rfl⟩:∃ l,m=l+1:=⟨o.length,by rw[<- hol];simp⟩;have hol':o.length=l:=by simpa using hol
      obtain⟨g,rfl,hg1,hg2,hgc⟩:=own_cell HOW.out (by omega);obtain⟨d0,d1,d2⟩:=cellsIt_at (o++[y]) l (by simp;omega);have hy:(o++[y])[l]'(by simp;omega)=y:=by simp[hol']
      rw[hy] at d0 d1 d2;have q0:=hgc _ _ d0;have q1:=hgc _ _ d1;have q2:=hgc _ _ d2;have r0:=HOW.out.frozenAt (l*3);have r1:=HOW.out.frozenAt (l*3+1);have r2:=HOW.out.frozenAt (l*3+2);haveI:LtW g wr:=LtW.of hg2;have hl1:((l+1:Nat):Int)-1=(l:Int):=by omega
      obtain⟨yk,yt,yi⟩:=y;simp only at q0 q1 q2;clear d0 d1 d2 hgc hy
      by_cases hyk:yk=1
      ·subst hyk
       have HADD:=hid (show St.addI (o++[(1,yt,yi)]) (1,tx,id)=o++[(1,yt++tx,0)] by rw[St.addI_snoc];simp[htx]);have hcat:((⟨yt.toArray⟩:ByteArray)++(⟨tx.toArray⟩:ByteArray))=⟨(yt++tx).toArray⟩:=by apply ByteArray.ext;simp
       have hsz9:¬ 9223372036854775807<yt.length+tx.length:=by
        have h1:=HT2.out;have h2:=HTK.out;have h3:=HLE.out;have h4:=HTT.out;rw[tot_snoc] at h1;simp only at h1 h2;omega
       have hlast:=own_last (z:=(1,yt++tx,0)) HOW.out (by omega)
       have hrel0:∀ W:World,(W.ownsRow w.heap.size 66 3 (.slice (some ⟨g,0,none⟩) (l+1) cO) (l+1) (cellsIt (o++[(1,yt++tx,0)]))/\wr.grownBy W (some g))->NoRel w f (.slice (some ⟨g,0,none⟩) (l+1) cO) (.int .i64 ((k+1:Nat):Int)) W:=by
        intro W hW;refine⟨k+1,by omega,rfl,?_,?_,HU.out.grown hW.2 (fun g' e=>by cases e;exact hg1)⟩
        ·rw[HNT.out,HADD.out,List.length_append,List.length_singleton,hol'];exact hW.1
        ·rw[HNT.out];have h1:=HTA.out;have h2:=HTK.out;have:=HT2.out;simp only at h1 h2;omega
       have hrel:=hrel0 _ ⟨own_und ((Und.refl _).alloc (.cells #[.int .i64 1,.string ⟨tx.toArray⟩,.int .i64 id] 66)).drew hlast.1,gb_und hlast.2 ((Und.refl _).alloc (.cells #[.int .i64 1,.string ⟨tx.toArray⟩,.int .i64 id] 66)).drew⟩;rw[hol'] at hrel;have HREL:=hid hrel;clear hrel hrel0 hlast htx hol';go_wp2_with fail;go_region
       all_goals
        go_wp2;exact⟨by simpa using HREL.out,by simp[intOf];omega⟩
      ·have hykb:(yk==1)=false:=by simpa using hyk
       have HADD:=hid (show St.addI (o++[(yk,yt,yi)]) (1,tx,id)=(o++[(yk,yt,yi)])++[(1,tx,0)] by rw[St.addI_snoc];simp[htx,hyk]);clear htx hyk;go_wp2_with (at_builtin;refine wpList_append_own _ rfl _ _ 24 rfl w.heap.size 66 i0 (.agg #[.int .i64 0,.string ⟨#[]⟩,.int .i64 0]) 3 32 Tryz.underlying24 hi hz0 hz1 hz2 rfl (by decide) (.slice (some ⟨g,0,none⟩) (l+1) cO) (l+1) _ rfl ((HOW.out.alloc _).alloc _) _ 1 1 [.int .i64 1,.string ⟨tx.toArray⟩,.int .i64 0] rfl rfl ?_ (item_one _ _ _) (by unfold maxLen;omega) (by omega) ?_ ?_)
       ·omega
       ·intro v' w4 hown' hgrow _
        have hrel:NoRel w f v' (.int .i64 ((k+1:Nat):Int)) w4:=by
         refine⟨k+1,by omega,rfl,?_,?_,((HU.out.alloc _).alloc _).grown hgrow (fun g hg=>owns_block HOW.out g hg)⟩
         ·rw[HNT.out,HADD.out,cellsIt_snoc,List.length_append,List.length_singleton,hol];exact hown'
         ·rw[HNT.out];have:=HTA.out;have:=HTK.out;have:=HT2.out;omega
        have HREL:=hid hrel;clear hown' hgrow hrel;go_wp2;exact⟨by simpa using HREL.out,by simp[intOf];omega⟩
   ·have hkb:(kd==1)=false:=by simpa using hkd
    have hadd:St.addI O (kd,tx,id)=O++[(kd,tx,id)]:=by unfold St.addI;rw[if_neg hkd]
    have HADD:=hid hadd;clear hkd hadd;go_wp2_with (at_builtin;refine wpList_append_own _ rfl _ _ 24 rfl w.heap.size 66 i0 (.agg #[.int .i64 0,.string ⟨#[]⟩,.int .i64 0]) 3 32 Tryz.underlying24 hi hz0 hz1 hz2 rfl (by decide) (.slice AO m cO) m _ rfl ((HOW.out.alloc _).alloc _) _ 1 1 [.int .i64 kd,.string ⟨tx.toArray⟩,.int .i64 id] rfl rfl ?_ (item_one _ _ _) (by unfold maxLen;omega) (by omega) ?_ ?_)
    ·omega
    ·intro v' w4 hown' hgrow _
     have hrel:NoRel w f v' (.int .i64 ((k+1:Nat):Int)) w4:=by
      refine⟨k+1,by omega,rfl,?_,?_,((HU.out.alloc _).alloc _).grown hgrow (fun g hg=>owns_block HOW.out g hg)⟩
      ·rw[HNT.out,HADD.out,cellsIt_snoc,List.length_append,List.length_singleton,hol];exact hown'
      ·rw[HNT.out];have:=HTA.out;have:=HTK.out;have:=HT2.out;omega
     have HREL:=hid hrel;clear hown' hgrow hrel;go_wp2;exact⟨by simpa using HREL.out,by simp[intOf];omega⟩
  ·have hkn:k=n:=by have:=HN.out;omega
   subst hkn;have hfk:f.take k=f:=List.take_of_length_le (by have:=HN.out;omega);rw[hfk] at hown;have HOW:=hid hown;clear hown hu hlt hfk htt;go_wp2;go_ret;exact⟨_,rfl,HOW.out,HU.out⟩
end
section
theorem ItemsAt.cells{w:World}{ad:Addr}{f:List St.It}(h:ItemsAt w (some ad) f):∀ j u,(cellsIt f)[j]?=some u->w.cell? (ad.add j)=some u:=by
 intro j u hj;have hl:j<f.length*3:=by rw[<- cells_len];exact(List.getElem?_eq_some_iff.1 hj).1
 obtain⟨b,off,e,hb,hc⟩:=h (by omega);cases e;have hadd:(⟨b,off,none⟩:Addr).add j=⟨b,off+j,none⟩:=by unfold Addr.add;split <;> simp_all
 rw[hadd];obtain⟨q,r,hr,rfl⟩:∃ q r,r<3/\j=q*3+r:=⟨j / 3,j % 3,Nat.mod_lt _ (by decide),by omega⟩;obtain⟨c0,c1,c2⟩:=hc q (by omega);obtain⟨d0,d1,d2⟩:=cellsIt_at f q (by omega)
 match r,hr,hj with
 | 0,_,hj=>exact c0.trans (d0.symm.trans hj)
 | 1,_,hj=>exact c1.trans (d1.symm.trans hj)
 | 2,_,hj=>exact c2.trans (d2.symm.trans hj)
theorem cellsIt_one(f:List St.It):∀ u ∈ cellsIt f,u.oneCell'=true:=by
 intro u hu;unfold cellsIt at hu;obtain⟨x,_,hx⟩:=List.mem_flatMap.1 hu;exact item_one _ _ _ u hx
theorem cellsIt_append(f g:List St.It):cellsIt (f++g)=cellsIt f++cellsIt g:=by simp[cellsIt]
theorem wpList_append_items{ops:Array Oper}{rest:List Oper}{o:Oper}{a:Act}{w:World}{Q:Exit->Act->World->Prop}(hgd:o.guard=none)(s x:Operand)
  (ho:o.op=.call { callee:=.builtin .append,args:=#[s,x],argTypes:=#[24,24] })
  (base:Nat) (v:Value) (n:Nat) (O:List St.It) (hs:a.eval s=v) (hown:w.ownsRow base 66 3 v n (cellsIt O))
  (A:Option Addr) (m c:Nat) (f:List St.It) (hx:a.eval x=.slice A m c) (hA:A=none->m=0/\c=0) (hI:ItemsAt w A f) (hm:f.length=m) (h63:n+m<=200000) (hbase:base<=w.heap.size)
  (h:∀ v' w',w'.ownsRow base 66 3 v' (n+m) (cellsIt (O++f))->w.grownBy w' v.ownBlock->wpList Tryz.prog ops Q rest (a.put o.dst v') w'):wpList Tryz.prog ops Q (o :: rest) a w:=by
 obtain⟨i0,hi,hz0,hz1,hz2⟩:=info_parts info_item;cases A with
 | none=>
  obtain⟨rfl,rfl⟩:=hA rfl;have:f=[]:=List.eq_nil_of_length_eq_zero hm
  subst this;refine wpList_append_own_none hgd s x 24 ho base 66 i0 3 Tryz.underlying24 hi v n _ hs hown hx ?_;exact h v w (by simpa using hown) (gb_refl _ _)
 | some ad=>
  refine wpList_append_own w hgd s x 24 ho base 66 i0 (.agg #[.int .i64 0,.string ⟨#[]⟩,.int .i64 0]) 3 32 Tryz.underlying24 hi hz0 hz1 hz2 rfl (by decide) v n _ hs hown ad m c (cellsIt f) hx (by rw[cells_len,hm]) hI.cells (cellsIt_one f) (by unfold maxLen;omega) (by omega) hbase ?_;intro v' w' ho' hg _;exact h v' w' (by rw[cellsIt_append];exact ho') hg
theorem concat_any(A:Option Addr)(n c:Nat)(f:List St.It)(B:Option Addr)(m d:Nat)(g:List St.It)(w:World)(hn:f.length=n)(hm:g.length=m)(hA:A=none->n=0/\c=0)(hB:B=none->m=0/\d=0)
  (h:ItemsAt w A f) (h':ItemsAt w B g) (hl:n+m<=100000) (ht:tot (f++g)<=4611686018427387904) :
  Calls Tryz.prog 22 #[.slice A n c,.slice B m d] w fun e w'=>∃ v,e=.returned v/\w'.ownsRow w.heap.size 66 3 v (St.normL (f++g)).length (cellsIt (St.normL (f++g)))/\Und w w':=by
 have H:=hid h;have H':=hid h';have HT:=hid ht;clear h h' ht;go_enter Tryz.func22,Tryz.ntmps22;go_wp2_with (at_builtin;refine wpList_append_items rfl _ _ rfl w.heap.size (.slice none 0 0) 0 [] rfl (World.ownsRow_nil _ _ _ _) A n c f rfl hA H.out hn (by omega) (Nat.le_refl _) ?_);intro v1 w1 ho1 hg1;have hu1:Und w w1:=(Und.refl w).grown hg1 (fun g e=>by simp[Value.ownBlock] at e);have HO1:=hid ho1;have HU1:=hid hu1;have HS1:=hid hu1.size;clear ho1 hg1 hu1;go_wp2_with (at_builtin;refine wpList_append_items rfl _ _ rfl w.heap.size v1 n f rfl HO1.out B m d g rfl hB (H'.out.und HU1.out) hm (by omega) HS1.out ?_);intro v2 w2 ho2 hg2;have hu2:Und w w2:=HU1.out.grown hg2 (fun g hg=>owns_block HO1.out g hg);obtain⟨A2,c2,rfl,_,_,hA2⟩:=own_slice' ho2;have hlen:(f++g).length=n+m:=by simp[hn,hm]
 have hnm:=normalize_any A2 (n+m) c2 (f++g) w2 hlen (items_own ho2 hlen) hl HT.out;have HNM:=hid hnm;have HU2:=hid hu2;have HS2:=hid hu2.size;clear ho2 hg2 hu2 hnm HO1 HU1 HS1;go_wp2_with (go_at_call 71;refine HNM.out.mono ?_;rintro e w3 ⟨v3,rfl,ho3,hu3⟩);have HO3:=hid (own_low ho3 HS2.out);have HU3:=hid (HU2.out.trans hu3);clear ho3 hu3;go_wp2;go_ret;exact⟨_,rfl,HO3.out,HU3.out⟩
end
section
def NmRel(s:ByteArray)(i:Value):Prop:=∃ k:Nat,i=.int .i64 k/\k<=s.size/\(St.nameOf s.data.toList).length=k+(St.nameOf (s.data.toList.drop k)).length
theorem rname_any(s:ByteArray)(w:World)(hs:s.size<=4611686018427387904):Calls Tryz.prog 21 #[.string s] w fun e w'=>∃ t:ByteArray,e=.returned (.string t)/\t.data.toList=St.nameOf s.data.toList/\w=w':=by
 have hpre:St.nameOf s.data.toList=s.data.toList.take (St.nameOf s.data.toList).length:=List.prefix_iff_eq_take.1 (List.takeWhile_prefix _);have HPRE:=hid hpre;clear hpre;go_enter Tryz.func21,Tryz.ntmps21;go_wp2;go_loopw [3] (fun i wr=>NmRel s i/\w=wr) (fun i _=>s.size+1-(intOf i).toNat)
 case atStart=>exact⟨⟨0,rfl,by omega,by simp⟩,rfl⟩
 case round=>
  obtain⟨⟨k,rfl,hk,hl⟩,rfl⟩:=hrel
  by_cases hlt:k<s.size
  ·have hcons:=St.drop_at s k hlt
   have z1:(k:Int)<s.size:=by omega
   by_cases h32:s[k].toNat=32
   ·have z2:((s[k].toNat:Int)==32)=true:=by simp;omega
    have hn:St.nameOf (s.data.toList.drop k)=[]:=by rw[hcons];unfold St.nameOf;rw[List.takeWhile_cons_of_neg (by simp[h32])]
    rw[hn] at hl;have hr:=hid (show (s.extract 0 k).data.toList=St.nameOf s.data.toList by rw[HPRE.out,hl,Lib.extract_data];simp);have y1:(0:Int)<=(k:Int):=by omega
    have y2:(k:Int)<=s.size:=by omega
    clear hl hn hcons HPRE;go_wp2;go_ret;exact⟨_,rfl,hr.out,rfl⟩
   ·have z2:((s[k].toNat:Int)==32)=false:=by simp;omega
    have hn:(St.nameOf (s.data.toList.drop k)).length=1+(St.nameOf (s.data.toList.drop (k+1))).length:=by
     rw[hcons];unfold St.nameOf;rw[List.takeWhile_cons_of_pos (by simpa using h32)];simp;omega
    have HL:=hid (show (St.nameOf s.data.toList).length=(k+1)+(St.nameOf (s.data.toList.drop (k+1))).length by omega);clear hl hn hcons HPRE;go_wp2;exact⟨⟨⟨k+1,congrArg (Value.int .i64) (by omega),by omega,HL.out⟩,by trivial⟩,by simp[intOf];omega⟩
  ·have hke:k=s.size:=by omega
   subst hke;have z1:¬ (s.size:Int)<s.size:=by omega
   have hn:St.nameOf (s.data.toList.drop s.size)=[]:=by rw[List.drop_of_length_le (by simp)];rfl
   rw[hn] at hl
   have hr:=hid (show s.data.toList=St.nameOf s.data.toList by
    conv=>rhs;rw[HPRE.out]
    rw[hl]
    exact(List.take_of_length_le (by simp)).symm)
   clear hl hn HPRE;go_wp2;go_ret;exact⟨s,rfl,hr.out,rfl⟩
theorem bl_eq(s:ByteArray)(l:List UInt8):(s.toList==l)=decide (s.data.toList=l):=by
 rw[Lib.toList_data]
 by_cases h:s.data.toList=l
 ·rw[h];simp
 ·simp[h]
theorem lenL_take(f:List St.It)(k:Nat)(h:k<f.length):St.lenL (f.take (k+1))=St.lenL (f.take k)+St.widthI f[k]:=by
 rw[List.take_add_one,List.getElem?_eq_getElem h];exact St.lenL_snoc _ _
theorem lenL_tot(f:List St.It):St.lenL f<=tot f+f.length:=by
 induction f with
 | nil=>simp[St.lenL]
 | cons x f ih=>
  have h1:St.widthI x<=x.2.1.length+1:=by unfold St.widthI;split <;> omega
  simp only[St.lenL,tot,List.map_cons,List.sum_cons,List.length_cons] at ih ⊢;omega
end
end Go.Proofs.YtcfhfdphoidaeaaGreatDoor
