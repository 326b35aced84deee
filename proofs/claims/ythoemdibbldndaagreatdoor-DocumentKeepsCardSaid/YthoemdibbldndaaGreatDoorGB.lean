/- The contract of the reference's Normalize: what it gives is St.normL. -/
import Derived.Test.YthoemdibbldndaaGreatDoorGA
import Derived.Laws.OwnMore
import Derived.Laws.AppendOwnNone
import Derived.Deep.QuietTactic
import Derived.BigQuiet
set_option linter.all false
set_option maxHeartbeats 0
set_option maxRecDepth 20000
open Go.Value renaming int->Yh,string->Yi,slice->Yj
open Go.IntKind renaming i64->Yn
open Go.Ending renaming returned->Yp
open Go renaming World->Ys
namespace Go.Proofs.YthoemdibbldndaaGreatDoor
open Go.RowKit
section
theorem j5(f:List St.It):(ak f).length=f.length*3:=by
 induction f with
 | nil=>rfl
 | cons x f ih=>simp[ak]at ih |-;omega
def uy(w:Ys)(f:List St.It)(s3 s9:Value)(wr:Ys):Prop:=
 ∃k:Nat,k<=f.length/\s9=Yh Yn k/\wr.ownsRow w.1.size 36 3 s3 (St.bl (f.take k)).length (ak (St.bl (f.take k)))/\aV (St.bl (f.take k))<=aV (f.take k)/\ac w wr
theorem Mt{w:Ys}{B g n c:Nat}{o:List St.It}{y z:St.It}(h:w.ownsRow B 36 3 (Yj (some ⟨g,0,none⟩) n c) n (ak (o++[y])))(hn:o.length+1=n) :
  (((w.setCell ⟨g,o.length*3,none⟩ (Yh Yn z.1)).setCell ⟨g,o.length*3+1,none⟩ (Yi ⟨z.2.1.toArray⟩)).setCell ⟨g,o.length*3+2,none⟩ (Yh Yn z.2.2)).ownsRow B 36 3 (Yj (some ⟨g,0,none⟩) n c) n (ak (o++[z])) /\
  w.grownBy (((w.setCell ⟨g,o.length*3,none⟩ (Yh Yn z.1)).setCell ⟨g,o.length*3+1,none⟩ (Yi ⟨z.2.1.toArray⟩)).setCell ⟨g,o.length*3+2,none⟩ (Yh Yn z.2.2)) (some g):=by
 have h1:=h.stored (o.length*3) (Yh Yn z.1);have h2:=h1.1.stored (o.length*3+1) (Yi ⟨z.2.1.toArray⟩);have h3:=h2.1.stored (o.length*3+2) (Yh Yn z.2.2);refine⟨?_,aO (aO h1.2 h2.2 (λg e=>Or.inl e)) h3.2 (λg e=>Or.inl e)⟩
 have e:ak (o++[z])=((((ak (o++[y])).set (o.length*3) (Yh Yn z.1)).set (o.length*3+1) (Yi ⟨z.2.1.toArray⟩)).set (o.length*3+2) (Yh Yn z.2.2)):=by
  rw[bD,bD];have hl:=j5 o;rw[List.set_append_right _ _ (by omega),List.set_append_right _ _ (by omega),List.set_append_right _ _ (by omega)];congr 1;rw[show o.length*3-(ak o).length=0 by omega,show o.length*3+1-(ak o).length=1 by omega,show o.length*3+2-(ak o).length=2 by omega];rfl
 rw[e];exact h3.1
theorem sQ(A:Option Addr)(n c:Nat)(f:List St.It)(w:Ys)(hn:f.length=n)(h:aH w A f)(hl:n<=100000)(ht:aV f<=4611686018427387904) :
  Calls Tryz.prog 83 #[Yj A n c] w λe w'=>∃v,e=Yp v/\w'.ownsRow w.1.size 36 3 v (St.bl f).length (ak (St.bl f))/\ac w w':=by
 have H:=aa h;have HN:=aa hn;have Qd:=aa ht;obtain⟨i0,hi,hz0,hz1,hz2⟩:=info_parts dH;clear h hn ht;go_enter Tryz.func83,Tryz.ntmps83;go_wp2;go_loopw [3,9] (λs3 s9 wr=>uy w f s3 s9 wr) (λ_ s9 _=>n+1-(intOf s9).toNat)
 case atStart=>exact⟨0,by omega,rfl,World.ownsRow_nil _ _ _ _,by simp[St.bl,aV],ac.refl _⟩
 case round=>
  obtain⟨k,hk,rfl,hown,q6,hu⟩:=hrel;have HU:=aa hu;have hsz:=hu.size
  by_cases hlt:k<n
  ·have aI:k<f.length:=by rw[HN.out];exact hlt
   obtain⟨b,off,rfl,hb,hc⟩:=(H.out.ai HU.out) (by omega);obtain⟨c0,c1,c2⟩:=hc k aI;have hnt:=Kl f k aI;have htk:=jw f k aI;have hle:=fK f (k+1)
   have N3:(St.bl (f.take k)).length<=100000:=by
    have:=St.jg (f.take k)
    simp at this;omega
   generalize f[k]=x at c0 c1 c2 hnt htk;obtain⟨kd,tx,id⟩:=x;simp only at c0 c1 c2 htk;have C1:=gW (St.bl (f.take k)) (kd,tx,id);generalize hO:St.bl (f.take k)=O at hown q6 hnt N3 C1;obtain⟨AO,cO,rfl,_⟩:=aJ hown;have HOW:=aa hown;have lS:=aa hnt;have IZ:=aa C1;have pJ:=aa htk;have wG:=aa hle;have sA:=aa q6;haveI:af b wr:=af.of hb;generalize hol:O.length=m at hown HOW N3 |-;clear hc hown hu hnt C1 htk hle q6 hO
   by_cases cN:kd=1
   ·subst cN
    by_cases htx:tx=[]
    ·subst htx;have hadd:St.aL O (1,[],id)=O:=by unfold St.aL;simp
     have hrel:uy w f (Yj AO m cO) (Yh Yn ((k+1:Nat):Int)) (wr.alloc (.cells #[Yh Yn 1,Yi ⟨#[]⟩,Yh Yn id] 36)):=by
      refine⟨k+1,by omega,rfl,?_,?_,HU.out.alloc _⟩
      ·rw[lS.out,hadd,hol];exact HOW.out.alloc _
      rw[lS.out];have h1:=IZ.out;have h2:=pJ.out;have:=sA.out;simp only[List.length_nil]at h1 h2;omega
     have br:=aa hrel;clear hadd hrel;go_wp2;exact⟨by simpa using br.out,by simp[intOf];omega⟩
    have hne:((⟨tx.toArray⟩:ByteArray).toList==[])=false:=by
     rw[Lib.toList_data];simpa using htx
    have U5:tx.isEmpty=false:=by simpa using htx
    rcases St.cT O with hO|⟨o,y,hO⟩
    ·subst hO;have hm0:m=0:=by rw[<-hol];rfl
     subst hm0;have vd:=aa (show St.aL [] (1,tx,id)=[]++[(1,tx,0)]by rw[St.eB];simp[htx]);clear htx;go_wp2_with (at_builtin;refine wpList_append_own _ rfl _ _ 37 rfl w.1.size 36 i0 (.agg #[.int .i64 0,.string ⟨#[]⟩,.int .i64 0]) 3 32 Tryz.underlying37 hi hz0 hz1 hz2 rfl (by decide) (.slice AO 0 cO) 0 _ rfl ((HOW.out.alloc _).alloc _) _ 1 1 [.int .i64 1,.string ⟨tx.toArray⟩,.int .i64 0] rfl rfl ?_ (cL _ _ _) (by unfold maxLen;omega) (by omega) ?_ ?_)
     ·omega
     intro v' w4 hown' hgrow _
     have hrel:uy w f v' (Yh Yn ((k+1:Nat):Int)) w4:=by
      refine⟨k+1,by omega,rfl,?_,?_,((HU.out.alloc _).alloc _).grown hgrow (λg hg=>aB HOW.out g hg)⟩
      ·rw[lS.out,vd.out,bD,List.length_append,List.length_singleton,hol];exact hown'
      rw[lS.out];have:=IZ.out;have:=pJ.out;have:=sA.out;omega
     have br:=aa hrel;clear hown' hgrow hrel;go_wp2;exact⟨by simpa using br.out,by simp[intOf];omega⟩
    subst hO;obtain⟨l,rfl⟩:∃l,m=l+1:=⟨o.length,by rw[<-hol];simp⟩;have Hc:o.length=l:=by simpa using hol
    obtain⟨g,rfl,hg1,hg2,hgc⟩:=dU HOW.out (by omega);obtain⟨d0,d1,d2⟩:=kF (o++[y]) l (by simp;omega);have hy:(o++[y])[l]'(by simp;omega)=y:=by simp[Hc]
    rw[hy]at d0 d1 d2;have q0:=hgc _ _ d0;have q1:=hgc _ _ d1;have q2:=hgc _ _ d2;have r0:=HOW.out.frozenAt (l*3);have r1:=HOW.out.frozenAt (l*3+1);have r2:=HOW.out.frozenAt (l*3+2);haveI:af g wr:=af.of hg2;have JS:((l+1:Nat):Int)-1=(l:Int):=by omega
    obtain⟨yk,yt,yi⟩:=y;simp only at q0 q1 q2;clear d0 d1 d2 hgc hy
    by_cases hyk:yk=1
    ·subst hyk;have vd:=aa (show St.aL (o++[(1,yt,yi)]) (1,tx,id)=o++[(1,yt++tx,0)]by rw[St.cU];simp[htx]);have kQ:((⟨yt.toArray⟩:ByteArray)++(⟨tx.toArray⟩:ByteArray))=⟨(yt++tx).toArray⟩:=by apply ByteArray.ext;simp
     have Xm:¬9223372036854775807<yt.length+tx.length:=by
      have h1:=sA.out;have h2:=pJ.out;have h3:=wG.out;have h4:=Qd.out;rw[cw]at h1;simp only at h1 h2;omega
     have hlast:=Mt (z:=(1,yt++tx,0)) HOW.out (by omega)
     have N8:∀W:Ys,(W.ownsRow w.1.size 36 3 (Yj (some ⟨g,0,none⟩) (l+1) cO) (l+1) (ak (o++[(1,yt++tx,0)]))/\wr.grownBy W (some g))->uy w f (Yj (some ⟨g,0,none⟩) (l+1) cO) (Yh Yn ((k+1:Nat):Int)) W:=by
      intro W hW;refine⟨k+1,by omega,rfl,?_,?_,HU.out.grown hW.2 (λg' e=>by cases e;exact hg1)⟩
      ·rw[lS.out,vd.out,List.length_append,List.length_singleton,Hc];exact hW.1
      rw[lS.out];have h1:=IZ.out;have h2:=pJ.out;have:=sA.out;simp only at h1 h2;omega
     have hrel:=N8 _ ⟨aF ((ac.refl _).alloc (.cells #[Yh Yn 1,Yi ⟨tx.toArray⟩,Yh Yn id] 36)).drew hlast.1,bK hlast.2 ((ac.refl _).alloc (.cells #[Yh Yn 1,Yi ⟨tx.toArray⟩,Yh Yn id] 36)).drew⟩;rw[Hc]at hrel;have br:=aa hrel;clear hrel N8 hlast htx Hc;go_wp2_with fail;go_region
     all_goals
      go_wp2;exact⟨by simpa using br.out,by simp[intOf];omega⟩
    have Xs:(yk==1)=false:=by simpa using hyk
    have vd:=aa (show St.aL (o++[(yk,yt,yi)]) (1,tx,id)=(o++[(yk,yt,yi)])++[(1,tx,0)]by rw[St.cU];simp[htx,hyk]);clear htx hyk;go_wp2_with (at_builtin;refine wpList_append_own _ rfl _ _ 37 rfl w.1.size 36 i0 (.agg #[.int .i64 0,.string ⟨#[]⟩,.int .i64 0]) 3 32 Tryz.underlying37 hi hz0 hz1 hz2 rfl (by decide) (.slice (some ⟨g,0,none⟩) (l+1) cO) (l+1) _ rfl ((HOW.out.alloc _).alloc _) _ 1 1 [.int .i64 1,.string ⟨tx.toArray⟩,.int .i64 0] rfl rfl ?_ (cL _ _ _) (by unfold maxLen;omega) (by omega) ?_ ?_)
    ·omega
    intro v' w4 hown' hgrow _
    have hrel:uy w f v' (Yh Yn ((k+1:Nat):Int)) w4:=by
     refine⟨k+1,by omega,rfl,?_,?_,((HU.out.alloc _).alloc _).grown hgrow (λg hg=>aB HOW.out g hg)⟩
     ·rw[lS.out,vd.out,bD,List.length_append,List.length_singleton,hol];exact hown'
     rw[lS.out];have:=IZ.out;have:=pJ.out;have:=sA.out;omega
    have br:=aa hrel;clear hown' hgrow hrel;go_wp2;exact⟨by simpa using br.out,by simp[intOf];omega⟩
   have hkb:(kd==1)=false:=by simpa using cN
   have hadd:St.aL O (kd,tx,id)=O++[(kd,tx,id)]:=by unfold St.aL;rw[if_neg cN]
   have vd:=aa hadd;clear cN hadd;go_wp2_with (at_builtin;refine wpList_append_own _ rfl _ _ 37 rfl w.1.size 36 i0 (.agg #[.int .i64 0,.string ⟨#[]⟩,.int .i64 0]) 3 32 Tryz.underlying37 hi hz0 hz1 hz2 rfl (by decide) (.slice AO m cO) m _ rfl ((HOW.out.alloc _).alloc _) _ 1 1 [.int .i64 kd,.string ⟨tx.toArray⟩,.int .i64 id] rfl rfl ?_ (cL _ _ _) (by unfold maxLen;omega) (by omega) ?_ ?_)
   ·omega
   intro v' w4 hown' hgrow _
   have hrel:uy w f v' (Yh Yn ((k+1:Nat):Int)) w4:=by
    refine⟨k+1,by omega,rfl,?_,?_,((HU.out.alloc _).alloc _).grown hgrow (λg hg=>aB HOW.out g hg)⟩
    ·rw[lS.out,vd.out,bD,List.length_append,List.length_singleton,hol];exact hown'
    rw[lS.out];have:=IZ.out;have:=pJ.out;have:=sA.out;omega
   have br:=aa hrel;clear hown' hgrow hrel;go_wp2;exact⟨by simpa using br.out,by simp[intOf];omega⟩
  have hkn:k=n:=by have:=HN.out;omega
  subst hkn;have uT:f.take k=f:=List.take_of_length_le (by have:=HN.out;omega);rw[uT]at hown;have HOW:=aa hown;clear hown hu hlt uT q6;go_wp2;go_ret;exact⟨_,rfl,HOW.out,HU.out⟩
end
section
theorem aH.cells{w:Ys}{ad:Addr}{f:List St.It}(h:aH w (some ad) f):∀j u,(ak f)[j]?=some u->w.cell? (ad.add j)=some u:=by
 intro j u hj;have hl:j<f.length*3:=by rw[<-j5];exact(List.getElem?_eq_some_iff.1 hj).1
 obtain⟨b,off,e,hb,hc⟩:=h (by omega);cases e;have hadd:(⟨b,off,none⟩:Addr).add j=⟨b,off+j,none⟩:=by unfold Addr.add;split<;>simp_all
 rw[hadd];obtain⟨q,r,hr,rfl⟩:∃q r,r<3/\j=q*3+r:=⟨j / 3,j % 3,Nat.mod_lt _ (by decide),by omega⟩;obtain⟨c0,c1,c2⟩:=hc q (by omega);obtain⟨d0,d1,d2⟩:=kF f q (by omega)
 match r,hr,hj with
 | 0,_,hj=>exact c0.trans (d0.symm.trans hj)
 | 1,_,hj=>exact c1.trans (d1.symm.trans hj)
 | 2,_,hj=>exact c2.trans (d2.symm.trans hj)
theorem qv(f:List St.It):∀u∈ak f,u.oneCell'=true:=by
 intro u hu;unfold ak at hu;obtain⟨x,_,hx⟩:=List.mem_flatMap.1 hu;exact cL _ _ _ u hx
theorem mR(f g:List St.It):ak (f++g)=ak f++ak g:=by simp[ak]
theorem gP{ops:Array Oper}{rest:List Oper}{o:Oper}{a:Act}{w:Ys}{Q:Exit->Act->Ys->Prop}(hgd:o.guard=none)(s x:Operand)
  (ho:o.op=.call { callee:=.builtin .append,args:=#[s,x],argTypes:=#[37,37] })
  (base:Nat) (v:Value) (n:Nat) (O:List St.It) (hs:a.eval s=v) (hown:w.ownsRow base 36 3 v n (ak O))
  (A:Option Addr) (m c:Nat) (f:List St.It) (hx:a.eval x=Yj A m c) (hA:A=none->m=0/\c=0) (hI:aH w A f) (hm:f.length=m) (h63:n+m<=200000) (hbase:base<=w.1.size)
  (h:∀v' w',w'.ownsRow base 36 3 v' (n+m) (ak (O++f))->w.grownBy w' v.ownBlock->wpList Tryz.prog ops Q rest (a.put o.dst v') w'):wpList Tryz.prog ops Q (o :: rest) a w:=by
 obtain⟨i0,hi,hz0,hz1,hz2⟩:=info_parts dH;cases A with
 | none=>
  obtain⟨rfl,rfl⟩:=hA rfl;have:f=[]:=List.eq_nil_of_length_eq_zero hm
  subst this;refine wpList_append_own_none hgd s x 37 ho base 36 i0 3 Tryz.underlying37 hi v n _ hs hown hx ?_;exact h v w (by simpa using hown) (bA _ _)
 | some ad=>
  refine wpList_append_own w hgd s x 37 ho base 36 i0 (.agg #[.int .i64 0,.string ⟨#[]⟩,.int .i64 0]) 3 32 Tryz.underlying37 hi hz0 hz1 hz2 rfl (by decide) v n _ hs hown ad m c (ak f) hx (by rw[j5,hm]) hI.cells (qv f) (by unfold maxLen;omega) (by omega) hbase ?_;intro v' w' ho' hg _;exact h v' w' (by rw[mR];exact ho') hg
theorem gZ(A:Option Addr)(n c:Nat)(f:List St.It)(B:Option Addr)(m d:Nat)(g:List St.It)(w:Ys)(hn:f.length=n)(hm:g.length=m)(hA:A=none->n=0/\c=0)(hB:B=none->m=0/\d=0)
  (h:aH w A f) (h':aH w B g) (hl:n+m<=100000) (ht:aV (f++g)<=4611686018427387904) :
  Calls Tryz.prog 44 #[Yj A n c,Yj B m d] w λe w'=>∃v,e=Yp v/\w'.ownsRow w.1.size 36 3 v (St.bl (f++g)).length (ak (St.bl (f++g)))/\ac w w':=by
 have H:=aa h;have H':=aa h';have HT:=aa ht;clear h h' ht;go_enter Tryz.func44,Tryz.ntmps44;go_wp2_with (at_builtin;refine gP rfl _ _ rfl w.1.size (Yj none 0 0) 0 [] rfl (World.ownsRow_nil _ _ _ _) A n c f rfl hA H.out hn (by omega) (Nat.le_refl _) ?_);intro v1 w1 dZ hg1;have hu1:ac w w1:=(ac.refl w).grown hg1 (λg e=>by simp[Value.ownBlock]at e);have nD:=aa dZ;have iB:=aa hu1;have lU:=aa hu1.size;clear dZ hg1 hu1;go_wp2_with (at_builtin;refine gP rfl _ _ rfl w.1.size v1 n f rfl nD.out B m d g rfl hB (H'.out.ai iB.out) hm (by omega) lU.out ?_);intro v2 w2 fw hg2;have hu2:ac w w2:=iB.out.grown hg2 (λg hg=>aB nD.out g hg);obtain⟨A2,c2,rfl,_,_,QE⟩:=aR fw;have hlen:(f++g).length=n+m:=by simp[hn,hm]
 have be:=sQ A2 (n+m) c2 (f++g) w2 hlen (aW fw hlen) hl HT.out;have bt:=aa be;have aX:=aa hu2;have dy:=aa hu2.size;clear fw hg2 hu2 be nD iB lU;go_wp2_with (go_at_call 83;refine bt.out.mono ?_;rintro e w3 ⟨v3,rfl,cR,hu3⟩);have fo:=aa (cH cR dy.out);have a7:=aa (aX.out.trans hu3);clear cR hu3;go_wp2;go_ret;exact⟨_,rfl,fo.out,a7.out⟩
end
section
theorem lL(k:Int)(t:ByteArray)(i:Int)(w:Ys):Calls Tryz.prog 108 #[.agg #[Yh Yn k,Yi t,Yh Yn i]] w λe w'=>e=Yp (.bool (St.aQ k))/\ac w w':=by
 by_cases h2:k=2
 ·subst h2;go_enter Tryz.func108,Tryz.ntmps108;go_wp2;go_ret;exact⟨rfl,uZ⟩
 have z2:(k==2)=false:=by simpa using h2
 by_cases h3:k=3
 ·subst h3;go_enter Tryz.func108,Tryz.ntmps108;go_wp2;go_ret;exact⟨rfl,uZ⟩
 have z3:(k==3)=false:=by simpa using h3
 by_cases h4:k=4
 ·subst h4;go_enter Tryz.func108,Tryz.ntmps108;go_wp2;go_ret;exact⟨rfl,uZ⟩
 have z4:(k==4)=false:=by simpa using h4
 have hr:=aa (show St.aQ k=false by unfold St.aQ;simp[h2,h3,h4]);clear h2 h3 h4;go_enter Tryz.func108,Tryz.ntmps108;go_wp2;go_ret;exact⟨az hr.out.symm,uZ⟩
def SK(s:ByteArray)(i:Value):Prop:=∃k:Nat,i=Yh Yn k/\k<=s.size/\(St.nameOf s.1.1).length=k+(St.nameOf (s.1.1.drop k)).length
theorem Bb(s:ByteArray)(w:Ys)(hs:s.size<=4611686018427387904):Calls Tryz.prog 105 #[Yi s] w λe w'=>∃t:ByteArray,e=Yp (Yi t)/\t.1.1=St.nameOf s.1.1/\w=w':=by
 have hpre:St.nameOf s.1.1=s.1.1.take (St.nameOf s.1.1).length:=List.prefix_iff_eq_take.1 (List.takeWhile_prefix _);have B5:=aa hpre;clear hpre;go_enter Tryz.func105,Tryz.ntmps105;go_wp2;go_loopw [3] (λi wr=>SK s i/\w=wr) (λi _=>s.size+1-(intOf i).toNat)
 case atStart=>exact⟨⟨0,rfl,by omega,by simp⟩,rfl⟩
 case round=>
  obtain⟨⟨k,rfl,hk,hl⟩,rfl⟩:=hrel
  by_cases hlt:k<s.size
  ·have av:=St.drop_at s k hlt;have z1:(k:Int)<s.size:=by omega
   by_cases uS:s[k].toNat=32
   ·have z2:((s[k].toNat:Int)==32)=true:=by simp;omega
    have hn:St.nameOf (s.1.1.drop k)=[]:=by rw[av];unfold St.nameOf;rw[List.takeWhile_cons_of_neg (by simp[uS])]
    rw[hn]at hl;have hr:=aa (show(s.extract 0 k).1.1=St.nameOf s.1.1 by rw[B5.out,hl,Lib.extract_data];simp);have y1:(0:Int)<=(k:Int):=by omega
    have y2:(k:Int)<=s.size:=by omega
    clear hl hn av B5;go_wp2;go_ret;exact⟨_,rfl,hr.out,rfl⟩
   have z2:((s[k].toNat:Int)==32)=false:=by simp;omega
   have hn:(St.nameOf (s.1.1.drop k)).length=1+(St.nameOf (s.1.1.drop (k+1))).length:=by
    rw[av];unfold St.nameOf;rw[List.takeWhile_cons_of_pos (by simpa using uS)];simp;omega
   have HL:=aa (show(St.nameOf s.1.1).length=(k+1)+(St.nameOf (s.1.1.drop (k+1))).length by omega);clear hl hn av B5;go_wp2;exact⟨⟨⟨k+1,congrArg (Yh Yn) (by omega),by omega,HL.out⟩,by trivial⟩,by simp[intOf];omega⟩
  have pW:k=s.size:=by omega
  subst pW;have z1:¬(s.size:Int)<s.size:=by omega
  have hn:St.nameOf (s.1.1.drop s.size)=[]:=by rw[List.drop_of_length_le (by simp)];rfl
  rw[hn]at hl
  have hr:=aa (show s.1.1=St.nameOf s.1.1 by
   conv=>rhs;rw[B5.out]
   rw[hl]
   exact(List.take_of_length_le (by simp)).symm)
  clear hl hn B5;go_wp2;go_ret;exact⟨s,rfl,hr.out,rfl⟩
theorem jR(s:ByteArray)(l:List UInt8):(s.toList==l)=decide (s.1.1=l):=by
 rw[Lib.toList_data]
 by_cases h:s.1.1=l
 ·rw[h];simp
 simp[h]
theorem ti(s:ByteArray)(w:Ys):Calls Tryz.prog 109 #[Yi s] w λe w'=>e=Yp (.bool (St.bC s.1.1))/\w=w':=by
 have h1:=jR s [112];have h2:=jR s [104];have h3:=jR s [108,105];have h4:=jR s [116,100];have h5:=jR s [116,105,116,108,101]
 have hr:St.bC s.1.1=(decide (s.1.1=[112]) || (decide (s.1.1=[104]) || (decide (s.1.1=[108,105]) || (decide (s.1.1=[116,100]) || decide (s.1.1=[116,105,116,108,101]))))):=by
  unfold St.bC;simp only[Bool.decide_or]
 rw[hr];generalize decide (s.1.1=[112])=b1 at h1 |-;generalize decide (s.1.1=[104])=b2 at h2 |-;generalize decide (s.1.1=[108,105])=b3 at h3 |-;generalize decide (s.1.1=[116,100])=b4 at h4 |-;generalize decide (s.1.1=[116,105,116,108,101])=b5 at h5 |-;clear hr;cases b1
 ·cases b2
  ·cases b3
   ·cases b4
    ·go_enter Tryz.func109,Tryz.ntmps109;go_wp2;go_ret;exact⟨by simp,rfl⟩
    go_enter Tryz.func109,Tryz.ntmps109;go_wp2;go_ret;exact⟨by simp,rfl⟩
   go_enter Tryz.func109,Tryz.ntmps109;go_wp2;go_ret;exact⟨by simp,rfl⟩
  go_enter Tryz.func109,Tryz.ntmps109;go_wp2;go_ret;exact⟨by simp,rfl⟩
 go_enter Tryz.func109,Tryz.ntmps109;go_wp2;go_ret;exact⟨by simp,rfl⟩
def SF(w:Ys)(f:List St.It)(s3 s7:Value)(wr:Ys):Prop:=∃k:Nat,k<=f.length/\s7=Yh Yn k/\s3=Yh Yn (St.aA (f.take k):Nat)/\w=wr
theorem p7(f:List St.It)(k:Nat)(h:k<f.length):St.aA (f.take (k+1))=St.aA (f.take k)+St.aZ f[k]:=by
 rw[List.take_add_one,List.getElem?_eq_getElem h];exact St.gG _ _
theorem gM(f:List St.It):St.aA f<=aV f+f.length:=by
 induction f with
 | nil=>simp[St.aA]
 | cons x f ih=>
  have h1:St.aZ x<=x.2.1.length+1:=by unfold St.aZ;split<;>omega
  simp only[St.aA,aV,List.map_cons,List.sum_cons,List.length_cons]at ih |-;omega
theorem la(A:Option Addr)(n c:Nat)(f:List St.It)(w:Ys)(hn:f.length=n)(h:aH w A f)(hl:n<=1000000000000)(ht:aV f<=4611686018427387904) :
  Calls Tryz.prog 29 #[Yj A n c] w λe w'=>e=Yp (Yh Yn (St.aA f:Nat))/\w=w':=by
 have H:=aa h;have HN:=aa hn;clear h hn;go_enter Tryz.func29,Tryz.ntmps29;go_wp2;go_loopw [3,7] (λs3 s7 wr=>SF w f s3 s7 wr) (λ_ s7 _=>n+1-(intOf s7).toNat)
 case atStart=>exact⟨0,by omega,rfl,rfl,rfl⟩
 case round=>
  obtain⟨k,hk,rfl,rfl,rfl⟩:=hrel;have hN:=HN.out;have hb1:=gM (f.take k);have hb2:=fK f k
  by_cases hlt:k<n
  ·have aI:k<f.length:=by omega
   obtain⟨b,off,rfl,hb,hc⟩:=H.out (by omega);obtain⟨c0,c1,c2⟩:=hc k aI;have hst:=p7 f k aI;have hb3:=fK f (k+1);rw[jw f k aI]at hb3;generalize f[k]=x at c0 c1 c2 hst hb3;obtain⟨kd,tx,id⟩:=x;simp only at c0 c1 c2 hb3;generalize St.aA (f.take k)=m at *;haveI:af b w:=af.of hb;have hkl:(f.take k).length<=k:=by simp;omega
   unfold St.aZ at hst;simp only at hst
   by_cases cN:kd=1
   ·subst cN;simp only[if_true]at hst;have hz:(⟨tx.toArray⟩:ByteArray).size=tx.length:=by show tx.toArray.size=_;simp
    have y1:m+tx.length<=5000000000000000000:=by omega
    have HST:=aa hst;clear hst hc hb1 hb2;go_wp2;exact⟨⟨k+1,by omega,congrArg (Yh Yn) (by omega),congrArg (Yh Yn) (by rw[HST.out];omega),rfl⟩,by simp[intOf];omega⟩
   have z1:(kd==1)=false:=by simpa using cN
   rw[if_neg cN]at hst;have HST:=aa hst;clear hst hc;go_wp2;exact⟨⟨k+1,by omega,congrArg (Yh Yn) (by omega),congrArg (Yh Yn) (by rw[HST.out];omega),rfl⟩,by simp[intOf];omega⟩
  have hkn:k=n:=by omega
  have hf:f.take k=f:=List.take_of_length_le (by omega);rw[hf];subst hkn;clear hf hb1 hb2;go_wp2;go_ret;exact⟨rfl,rfl⟩
end
