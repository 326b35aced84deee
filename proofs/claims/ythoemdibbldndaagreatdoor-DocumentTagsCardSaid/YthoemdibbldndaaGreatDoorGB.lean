/- The contract of the reference's Normalize: what it gives is St.normL. -/
import Derived.Test.YthoemdibbldndaaGreatDoorGA
import Derived.Laws.OwnMore
import Derived.Laws.AppendOwnNone
import Derived.Deep.QuietTactic
import Derived.BigQuiet
set_option linter.all false
set_option maxHeartbeats 0
set_option maxRecDepth 20000
open Go.Value renaming int->UM,string->UN,slice->UO
open Go.IntKind renaming i64->US
open Go.Ending renaming returned->UU
open Go renaming World->UY
namespace Go.Proofs.YthoemdibbldndaaGreatDoor
open Go.RowKit
section
theorem jF(f:List St.It):(av f).length=f.length*3:=by
 induction f with
 | nil=>rfl
 | cons x f ih=>simp[av]at ih |-;omega
def tj(w:UY)(f:List St.It)(s3 s9:Value)(wr:UY):Prop:=
 ∃k:Nat,k<=f.length/\s9=UM US k/\wr.ownsRow w.1.size 36 3 s3 (St.bH (f.take k)).length (av (St.bH (f.take k)))/\bc (St.bH (f.take k))<=bc (f.take k)/\ac w wr
theorem Kp{w:UY}{B g n c:Nat}{o:List St.It}{y z:St.It}(h:w.ownsRow B 36 3 (UO (some ⟨g,0,none⟩) n c) n (av (o++[y])))(hn:o.length+1=n) :
  (((w.setCell ⟨g,o.length*3,none⟩ (UM US z.1)).setCell ⟨g,o.length*3+1,none⟩ (UN ⟨z.2.1.toArray⟩)).setCell ⟨g,o.length*3+2,none⟩ (UM US z.2.2)).ownsRow B 36 3 (UO (some ⟨g,0,none⟩) n c) n (av (o++[z])) /\
  w.grownBy (((w.setCell ⟨g,o.length*3,none⟩ (UM US z.1)).setCell ⟨g,o.length*3+1,none⟩ (UN ⟨z.2.1.toArray⟩)).setCell ⟨g,o.length*3+2,none⟩ (UM US z.2.2)) (some g):=by
 have h1:=h.stored (o.length*3) (UM US z.1);have h2:=h1.1.stored (o.length*3+1) (UN ⟨z.2.1.toArray⟩);have h3:=h2.1.stored (o.length*3+2) (UM US z.2.2);refine⟨?_,aW (aW h1.2 h2.2 (λg e=>Or.inl e)) h3.2 (λg e=>Or.inl e)⟩
 have e:av (o++[z])=((((av (o++[y])).set (o.length*3) (UM US z.1)).set (o.length*3+1) (UN ⟨z.2.1.toArray⟩)).set (o.length*3+2) (UM US z.2.2)):=by
  rw[bE,bE];have hl:=jF o;rw[List.set_append_right _ _ (by omega),List.set_append_right _ _ (by omega),List.set_append_right _ _ (by omega)];congr 1;rw[show o.length*3-(av o).length=0 by omega,show o.length*3+1-(av o).length=1 by omega,show o.length*3+2-(av o).length=2 by omega];rfl
 rw[e];exact h3.1
theorem zx(A:Option Addr)(n c:Nat)(f:List St.It)(w:UY)(hn:f.length=n)(h:aO w A f)(hl:n<=100000)(ht:bc f<=4611686018427387904) :
  Calls Tryz.prog 83 #[UO A n c] w λe w'=>∃v,e=UU v/\w'.ownsRow w.1.size 36 3 v (St.bH f).length (av (St.bH f))/\ac w w':=by
 have H:=aa h;have HN:=aa hn;have SI:=aa ht;obtain⟨i0,hi,hz0,hz1,hz2⟩:=info_parts dw;clear h hn ht;go_enter Tryz.func83,Tryz.ntmps83;go_wp2;go_loopw [3,9] (λs3 s9 wr=>tj w f s3 s9 wr) (λ_ s9 _=>n+1-(intOf s9).toNat)
 case atStart=>exact⟨0,by omega,rfl,World.ownsRow_nil _ _ _ _,by simp[St.bH,bc],ac.refl _⟩
 case round=>
  obtain⟨k,hk,rfl,hown,ny,hu⟩:=hrel;have HU:=aa hu;have hsz:=hu.size
  by_cases hlt:k<n
  ·have aS:k<f.length:=by rw[HN.out];exact hlt
   obtain⟨b,off,rfl,hb,hc⟩:=(H.out.ai HU.out) (by omega);obtain⟨c0,c1,c2⟩:=hc k aS;have hnt:=Ik f k aS;have htk:=j1 f k aS;have hle:=fS f (k+1)
   have LI:(St.bH (f.take k)).length<=100000:=by
    have:=St.mX (f.take k)
    simp at this;omega
   generalize f[k]=x at c0 c1 c2 hnt htk;obtain⟨kd,tx,id⟩:=x;simp only at c0 c1 c2 htk;have Be:=mA (St.bH (f.take k)) (kd,tx,id);generalize hO:St.bH (f.take k)=O at hown ny hnt LI Be;obtain⟨AO,cO,rfl,_⟩:=aL hown;have HOW:=aa hown;have np:=aa hnt;have Gm:=aa Be;have tL:=aa htk;have Gg:=aa hle;have rH:=aa ny;haveI:af b wr:=af.of hb;generalize hol:O.length=m at hown HOW LI |-;clear hc hown hu hnt Be htk hle ny hO
   by_cases du:kd=1
   ·subst du
    by_cases htx:tx=[]
    ·subst htx;have hadd:St.aP O (1,[],id)=O:=by unfold St.aP;simp
     have hrel:tj w f (UO AO m cO) (UM US ((k+1:Nat):Int)) (wr.alloc (.cells #[UM US 1,UN ⟨#[]⟩,UM US id] 36)):=by
      refine⟨k+1,by omega,rfl,?_,?_,HU.out.alloc _⟩
      ·rw[np.out,hadd,hol];exact HOW.out.alloc _
      rw[np.out];have h1:=Gm.out;have h2:=tL.out;have:=rH.out;simp only[List.length_nil]at h1 h2;omega
     have bP:=aa hrel;clear hadd hrel;go_wp2;exact⟨by simpa using bP.out,by simp[intOf];omega⟩
    have hne:((⟨tx.toArray⟩:ByteArray).toList==[])=false:=by
     rw[Lib.toList_data];simpa using htx
    have RP:tx.isEmpty=false:=by simpa using htx
    rcases St.cG O with hO|⟨o,y,hO⟩
    ·subst hO;have hm0:m=0:=by rw[<-hol];rfl
     subst hm0;have tY:=aa (show St.aP [] (1,tx,id)=[]++[(1,tx,0)]by rw[St.ek];simp[htx]);clear htx;go_wp2_with (at_builtin;refine wpList_append_own _ rfl _ _ 37 rfl w.1.size 36 i0 (.agg #[.int .i64 0,.string ⟨#[]⟩,.int .i64 0]) 3 32 Tryz.underlying37 hi hz0 hz1 hz2 rfl (by decide) (.slice AO 0 cO) 0 _ rfl ((HOW.out.alloc _).alloc _) _ 1 1 [.int .i64 1,.string ⟨tx.toArray⟩,.int .i64 0] rfl rfl ?_ (cN _ _ _) (by unfold maxLen;omega) (by omega) ?_ ?_)
     ·omega
     intro v' w4 hown' hgrow _
     have hrel:tj w f v' (UM US ((k+1:Nat):Int)) w4:=by
      refine⟨k+1,by omega,rfl,?_,?_,((HU.out.alloc _).alloc _).grown hgrow (λg hg=>aG HOW.out g hg)⟩
      ·rw[np.out,tY.out,bE,List.length_append,List.length_singleton,hol];exact hown'
      rw[np.out];have:=Gm.out;have:=tL.out;have:=rH.out;omega
     have bP:=aa hrel;clear hown' hgrow hrel;go_wp2;exact⟨by simpa using bP.out,by simp[intOf];omega⟩
    subst hO;obtain⟨l,rfl⟩:∃l,m=l+1:=⟨o.length,by rw[<-hol];simp⟩;have E9:o.length=l:=by simpa using hol
    obtain⟨g,rfl,hg1,hg2,hgc⟩:=fg HOW.out (by omega);obtain⟨d0,d1,d2⟩:=j6 (o++[y]) l (by simp;omega);have hy:(o++[y])[l]'(by simp;omega)=y:=by simp[E9]
    rw[hy]at d0 d1 d2;have q0:=hgc _ _ d0;have q1:=hgc _ _ d1;have q2:=hgc _ _ d2;have r0:=HOW.out.frozenAt (l*3);have r1:=HOW.out.frozenAt (l*3+1);have r2:=HOW.out.frozenAt (l*3+2);haveI:af g wr:=af.of hg2;have Hp:((l+1:Nat):Int)-1=(l:Int):=by omega
    obtain⟨yk,yt,yi⟩:=y;simp only at q0 q1 q2;clear d0 d1 d2 hgc hy
    by_cases hyk:yk=1
    ·subst hyk;have tY:=aa (show St.aP (o++[(1,yt,yi)]) (1,tx,id)=o++[(1,yt++tx,0)]by rw[St.cS];simp[htx]);have mg:((⟨yt.toArray⟩:ByteArray)++(⟨tx.toArray⟩:ByteArray))=⟨(yt++tx).toArray⟩:=by apply ByteArray.ext;simp
     have T1:¬9223372036854775807<yt.length+tx.length:=by
      have h1:=rH.out;have h2:=tL.out;have h3:=Gg.out;have h4:=SI.out;rw[cR]at h1;simp only at h1 h2;omega
     have hlast:=Kp (z:=(1,yt++tx,0)) HOW.out (by omega)
     have LK:∀W:UY,(W.ownsRow w.1.size 36 3 (UO (some ⟨g,0,none⟩) (l+1) cO) (l+1) (av (o++[(1,yt++tx,0)]))/\wr.grownBy W (some g))->tj w f (UO (some ⟨g,0,none⟩) (l+1) cO) (UM US ((k+1:Nat):Int)) W:=by
      intro W hW;refine⟨k+1,by omega,rfl,?_,?_,HU.out.grown hW.2 (λg' e=>by cases e;exact hg1)⟩
      ·rw[np.out,tY.out,List.length_append,List.length_singleton,E9];exact hW.1
      rw[np.out];have h1:=Gm.out;have h2:=tL.out;have:=rH.out;simp only at h1 h2;omega
     have hrel:=LK _ ⟨aE ((ac.refl _).alloc (.cells #[UM US 1,UN ⟨tx.toArray⟩,UM US id] 36)).drew hlast.1,cm hlast.2 ((ac.refl _).alloc (.cells #[UM US 1,UN ⟨tx.toArray⟩,UM US id] 36)).drew⟩;rw[E9]at hrel;have bP:=aa hrel;clear hrel LK hlast htx E9;go_wp2_with fail;go_region
     all_goals
      go_wp2;exact⟨by simpa using bP.out,by simp[intOf];omega⟩
    have T7:(yk==1)=false:=by simpa using hyk
    have tY:=aa (show St.aP (o++[(yk,yt,yi)]) (1,tx,id)=(o++[(yk,yt,yi)])++[(1,tx,0)]by rw[St.cS];simp[htx,hyk]);clear htx hyk;go_wp2_with (at_builtin;refine wpList_append_own _ rfl _ _ 37 rfl w.1.size 36 i0 (.agg #[.int .i64 0,.string ⟨#[]⟩,.int .i64 0]) 3 32 Tryz.underlying37 hi hz0 hz1 hz2 rfl (by decide) (.slice (some ⟨g,0,none⟩) (l+1) cO) (l+1) _ rfl ((HOW.out.alloc _).alloc _) _ 1 1 [.int .i64 1,.string ⟨tx.toArray⟩,.int .i64 0] rfl rfl ?_ (cN _ _ _) (by unfold maxLen;omega) (by omega) ?_ ?_)
    ·omega
    intro v' w4 hown' hgrow _
    have hrel:tj w f v' (UM US ((k+1:Nat):Int)) w4:=by
     refine⟨k+1,by omega,rfl,?_,?_,((HU.out.alloc _).alloc _).grown hgrow (λg hg=>aG HOW.out g hg)⟩
     ·rw[np.out,tY.out,bE,List.length_append,List.length_singleton,hol];exact hown'
     rw[np.out];have:=Gm.out;have:=tL.out;have:=rH.out;omega
    have bP:=aa hrel;clear hown' hgrow hrel;go_wp2;exact⟨by simpa using bP.out,by simp[intOf];omega⟩
   have hkb:(kd==1)=false:=by simpa using du
   have hadd:St.aP O (kd,tx,id)=O++[(kd,tx,id)]:=by unfold St.aP;rw[if_neg du]
   have tY:=aa hadd;clear du hadd;go_wp2_with (at_builtin;refine wpList_append_own _ rfl _ _ 37 rfl w.1.size 36 i0 (.agg #[.int .i64 0,.string ⟨#[]⟩,.int .i64 0]) 3 32 Tryz.underlying37 hi hz0 hz1 hz2 rfl (by decide) (.slice AO m cO) m _ rfl ((HOW.out.alloc _).alloc _) _ 1 1 [.int .i64 kd,.string ⟨tx.toArray⟩,.int .i64 id] rfl rfl ?_ (cN _ _ _) (by unfold maxLen;omega) (by omega) ?_ ?_)
   ·omega
   intro v' w4 hown' hgrow _
   have hrel:tj w f v' (UM US ((k+1:Nat):Int)) w4:=by
    refine⟨k+1,by omega,rfl,?_,?_,((HU.out.alloc _).alloc _).grown hgrow (λg hg=>aG HOW.out g hg)⟩
    ·rw[np.out,tY.out,bE,List.length_append,List.length_singleton,hol];exact hown'
    rw[np.out];have:=Gm.out;have:=tL.out;have:=rH.out;omega
   have bP:=aa hrel;clear hown' hgrow hrel;go_wp2;exact⟨by simpa using bP.out,by simp[intOf];omega⟩
  have hkn:k=n:=by have:=HN.out;omega
  subst hkn;have yl:f.take k=f:=List.take_of_length_le (by have:=HN.out;omega);rw[yl]at hown;have HOW:=aa hown;clear hown hu hlt yl ny;go_wp2;go_ret;exact⟨_,rfl,HOW.out,HU.out⟩
end
section
theorem aO.cells{w:UY}{ad:Addr}{f:List St.It}(h:aO w (some ad) f):∀j u,(av f)[j]?=some u->w.cell? (ad.add j)=some u:=by
 intro j u hj;have hl:j<f.length*3:=by rw[<-jF];exact(List.getElem?_eq_some_iff.1 hj).1
 obtain⟨b,off,e,hb,hc⟩:=h (by omega);cases e;have hadd:(⟨b,off,none⟩:Addr).add j=⟨b,off+j,none⟩:=by unfold Addr.add;split<;>simp_all
 rw[hadd];obtain⟨q,r,hr,rfl⟩:∃q r,r<3/\j=q*3+r:=⟨j / 3,j % 3,Nat.mod_lt _ (by decide),by omega⟩;obtain⟨c0,c1,c2⟩:=hc q (by omega);obtain⟨d0,d1,d2⟩:=j6 f q (by omega)
 match r,hr,hj with
 | 0,_,hj=>exact c0.trans (d0.symm.trans hj)
 | 1,_,hj=>exact c1.trans (d1.symm.trans hj)
 | 2,_,hj=>exact c2.trans (d2.symm.trans hj)
theorem pF(f:List St.It):∀u∈av f,u.oneCell'=true:=by
 intro u hu;unfold av at hu;obtain⟨x,_,hx⟩:=List.mem_flatMap.1 hu;exact cN _ _ _ u hx
theorem l9(f g:List St.It):av (f++g)=av f++av g:=by simp[av]
theorem gy{ops:Array Oper}{rest:List Oper}{o:Oper}{a:Act}{w:UY}{Q:Exit->Act->UY->Prop}(hgd:o.guard=none)(s x:Operand)
  (ho:o.op=.call { callee:=.builtin .append,args:=#[s,x],argTypes:=#[37,37] })
  (base:Nat) (v:Value) (n:Nat) (O:List St.It) (hs:a.eval s=v) (hown:w.ownsRow base 36 3 v n (av O))
  (A:Option Addr) (m c:Nat) (f:List St.It) (hx:a.eval x=UO A m c) (hA:A=none->m=0/\c=0) (hI:aO w A f) (hm:f.length=m) (h63:n+m<=200000) (hbase:base<=w.1.size)
  (h:∀v' w',w'.ownsRow base 36 3 v' (n+m) (av (O++f))->w.grownBy w' v.ownBlock->wpList Tryz.prog ops Q rest (a.put o.dst v') w'):wpList Tryz.prog ops Q (o :: rest) a w:=by
 obtain⟨i0,hi,hz0,hz1,hz2⟩:=info_parts dw;cases A with
 | none=>
  obtain⟨rfl,rfl⟩:=hA rfl;have:f=[]:=List.eq_nil_of_length_eq_zero hm
  subst this;refine wpList_append_own_none hgd s x 37 ho base 36 i0 3 Tryz.underlying37 hi v n _ hs hown hx ?_;exact h v w (by simpa using hown) (bi _ _)
 | some ad=>
  refine wpList_append_own w hgd s x 37 ho base 36 i0 (.agg #[.int .i64 0,.string ⟨#[]⟩,.int .i64 0]) 3 32 Tryz.underlying37 hi hz0 hz1 hz2 rfl (by decide) v n _ hs hown ad m c (av f) hx (by rw[jF,hm]) hI.cells (pF f) (by unfold maxLen;omega) (by omega) hbase ?_;intro v' w' ho' hg _;exact h v' w' (by rw[l9];exact ho') hg
theorem nH(A:Option Addr)(n c:Nat)(f:List St.It)(B:Option Addr)(m d:Nat)(g:List St.It)(w:UY)(hn:f.length=n)(hm:g.length=m)(hA:A=none->n=0/\c=0)(hB:B=none->m=0/\d=0)
  (h:aO w A f) (h':aO w B g) (hl:n+m<=100000) (ht:bc (f++g)<=4611686018427387904) :
  Calls Tryz.prog 44 #[UO A n c,UO B m d] w λe w'=>∃v,e=UU v/\w'.ownsRow w.1.size 36 3 v (St.bH (f++g)).length (av (St.bH (f++g)))/\ac w w':=by
 have H:=aa h;have H':=aa h';have HT:=aa ht;clear h h' ht;go_enter Tryz.func44,Tryz.ntmps44;go_wp2_with (at_builtin;refine gy rfl _ _ rfl w.1.size (UO none 0 0) 0 [] rfl (World.ownsRow_nil _ _ _ _) A n c f rfl hA H.out hn (by omega) (Nat.le_refl _) ?_);intro v1 w1 dX hg1;have hu1:ac w w1:=(ac.refl w).grown hg1 (λg e=>by simp[Value.ownBlock]at e);have rX:=aa dX;have ij:=aa hu1;have ls:=aa hu1.size;clear dX hg1 hu1;go_wp2_with (at_builtin;refine gy rfl _ _ rfl w.1.size v1 n f rfl rX.out B m d g rfl hB (H'.out.ai ij.out) hm (by omega) ls.out ?_);intro v2 w2 fN hg2;have hu2:ac w w2:=ij.out.grown hg2 (λg hg=>aG rX.out g hg);obtain⟨A2,c2,rfl,_,_,NS⟩:=aT fN;have hlen:(f++g).length=n+m:=by simp[hn,hm]
 have a8:=zx A2 (n+m) c2 (f++g) w2 hlen (aX fN hlen) hl HT.out;have bl:=aa a8;have aZ:=aa hu2;have cU:=aa hu2.size;clear fN hg2 hu2 a8 rX ij ls;go_wp2_with (go_at_call 83;refine bl.out.mono ?_;rintro e w3 ⟨v3,rfl,bN,hu3⟩);have fi:=aa (dy bN cU.out);have bm:=aa (aZ.out.trans hu3);clear bN hu3;go_wp2;go_ret;exact⟨_,rfl,fi.out,bm.out⟩
end
section
theorem pg(k:Int)(t:ByteArray)(i:Int)(w:UY):Calls Tryz.prog 108 #[.agg #[UM US k,UN t,UM US i]] w λe w'=>e=UU (.bool (St.aJ k))/\ac w w':=by
 by_cases h2:k=2
 ·subst h2;go_enter Tryz.func108,Tryz.ntmps108;go_wp2;go_ret;exact⟨rfl,uZ⟩
 have z2:(k==2)=false:=by simpa using h2
 by_cases h3:k=3
 ·subst h3;go_enter Tryz.func108,Tryz.ntmps108;go_wp2;go_ret;exact⟨rfl,uZ⟩
 have z3:(k==3)=false:=by simpa using h3
 by_cases h4:k=4
 ·subst h4;go_enter Tryz.func108,Tryz.ntmps108;go_wp2;go_ret;exact⟨rfl,uZ⟩
 have z4:(k==4)=false:=by simpa using h4
 have hr:=aa (show St.aJ k=false by unfold St.aJ;simp[h2,h3,h4]);clear h2 h3 h4;go_enter Tryz.func108,Tryz.ntmps108;go_wp2;go_ret;exact⟨aD hr.out.symm,uZ⟩
def PE(s:ByteArray)(i:Value):Prop:=∃k:Nat,i=UM US k/\k<=s.size/\(St.nameOf s.1.1).length=k+(St.nameOf (s.1.1.drop k)).length
theorem yS(s:ByteArray)(w:UY)(hs:s.size<=4611686018427387904):Calls Tryz.prog 105 #[UN s] w λe w'=>∃t:ByteArray,e=UU (UN t)/\t.1.1=St.nameOf s.1.1/\w=w':=by
 have hpre:St.nameOf s.1.1=s.1.1.take (St.nameOf s.1.1).length:=List.prefix_iff_eq_take.1 (List.takeWhile_prefix _);have Ac:=aa hpre;clear hpre;go_enter Tryz.func105,Tryz.ntmps105;go_wp2;go_loopw [3] (λi wr=>PE s i/\w=wr) (λi _=>s.size+1-(intOf i).toNat)
 case atStart=>exact⟨⟨0,rfl,by omega,by simp⟩,rfl⟩
 case round=>
  obtain⟨⟨k,rfl,hk,hl⟩,rfl⟩:=hrel
  by_cases hlt:k<s.size
  ·have ax:=St.drop_at s k hlt;have z1:(k:Int)<s.size:=by omega
   by_cases tM:s[k].toNat=32
   ·have z2:((s[k].toNat:Int)==32)=true:=by simp;omega
    have hn:St.nameOf (s.1.1.drop k)=[]:=by rw[ax];unfold St.nameOf;rw[List.takeWhile_cons_of_neg (by simp[tM])]
    rw[hn]at hl;have hr:=aa (show(s.extract 0 k).1.1=St.nameOf s.1.1 by rw[Ac.out,hl,Lib.extract_data];simp);have y1:(0:Int)<=(k:Int):=by omega
    have y2:(k:Int)<=s.size:=by omega
    clear hl hn ax Ac;go_wp2;go_ret;exact⟨_,rfl,hr.out,rfl⟩
   have z2:((s[k].toNat:Int)==32)=false:=by simp;omega
   have hn:(St.nameOf (s.1.1.drop k)).length=1+(St.nameOf (s.1.1.drop (k+1))).length:=by
    rw[ax];unfold St.nameOf;rw[List.takeWhile_cons_of_pos (by simpa using tM)];simp;omega
   have HL:=aa (show(St.nameOf s.1.1).length=(k+1)+(St.nameOf (s.1.1.drop (k+1))).length by omega);clear hl hn ax Ac;go_wp2;exact⟨⟨⟨k+1,congrArg (UM US) (by omega),by omega,HL.out⟩,by trivial⟩,by simp[intOf];omega⟩
  have yn:k=s.size:=by omega
  subst yn;have z1:¬(s.size:Int)<s.size:=by omega
  have hn:St.nameOf (s.1.1.drop s.size)=[]:=by rw[List.drop_of_length_le (by simp)];rfl
  rw[hn]at hl
  have hr:=aa (show s.1.1=St.nameOf s.1.1 by
   conv=>rhs;rw[Ac.out]
   rw[hl]
   exact(List.take_of_length_le (by simp)).symm)
  clear hl hn Ac;go_wp2;go_ret;exact⟨s,rfl,hr.out,rfl⟩
theorem jw(s:ByteArray)(l:List UInt8):(s.toList==l)=decide (s.1.1=l):=by
 rw[Lib.toList_data]
 by_cases h:s.1.1=l
 ·rw[h];simp
 simp[h]
theorem sa(s:ByteArray)(w:UY):Calls Tryz.prog 109 #[UN s] w λe w'=>e=UU (.bool (St.bu s.1.1))/\w=w':=by
 have h1:=jw s [112];have h2:=jw s [104];have h3:=jw s [108,105];have h4:=jw s [116,100];have h5:=jw s [116,105,116,108,101]
 have hr:St.bu s.1.1=(decide (s.1.1=[112]) || (decide (s.1.1=[104]) || (decide (s.1.1=[108,105]) || (decide (s.1.1=[116,100]) || decide (s.1.1=[116,105,116,108,101]))))):=by
  unfold St.bu;simp only[Bool.decide_or]
 rw[hr];generalize decide (s.1.1=[112])=b1 at h1 |-;generalize decide (s.1.1=[104])=b2 at h2 |-;generalize decide (s.1.1=[108,105])=b3 at h3 |-;generalize decide (s.1.1=[116,100])=b4 at h4 |-;generalize decide (s.1.1=[116,105,116,108,101])=b5 at h5 |-;clear hr;cases b1
 ·cases b2
  ·cases b3
   ·cases b4
    ·go_enter Tryz.func109,Tryz.ntmps109;go_wp2;go_ret;exact⟨by simp,rfl⟩
    go_enter Tryz.func109,Tryz.ntmps109;go_wp2;go_ret;exact⟨by simp,rfl⟩
   go_enter Tryz.func109,Tryz.ntmps109;go_wp2;go_ret;exact⟨by simp,rfl⟩
  go_enter Tryz.func109,Tryz.ntmps109;go_wp2;go_ret;exact⟨by simp,rfl⟩
 go_enter Tryz.func109,Tryz.ntmps109;go_wp2;go_ret;exact⟨by simp,rfl⟩
def Pz(w:UY)(f:List St.It)(s3 s7:Value)(wr:UY):Prop:=∃k:Nat,k<=f.length/\s7=UM US k/\s3=UM US (St.ay (f.take k):Nat)/\w=wr
theorem pi(f:List St.It)(k:Nat)(h:k<f.length):St.ay (f.take (k+1))=St.ay (f.take k)+St.a7 f[k]:=by
 rw[List.take_add_one,List.getElem?_eq_getElem h];exact St.jN _ _
theorem jb(f:List St.It):St.ay f<=bc f+f.length:=by
 induction f with
 | nil=>simp[St.ay]
 | cons x f ih=>
  have h1:St.a7 x<=x.2.1.length+1:=by unfold St.a7;split<;>omega
  simp only[St.ay,bc,List.map_cons,List.sum_cons,List.length_cons]at ih |-;omega
theorem kA(A:Option Addr)(n c:Nat)(f:List St.It)(w:UY)(hn:f.length=n)(h:aO w A f)(hl:n<=1000000000000)(ht:bc f<=4611686018427387904) :
  Calls Tryz.prog 29 #[UO A n c] w λe w'=>e=UU (UM US (St.ay f:Nat))/\w=w':=by
 have H:=aa h;have HN:=aa hn;clear h hn;go_enter Tryz.func29,Tryz.ntmps29;go_wp2;go_loopw [3,7] (λs3 s7 wr=>Pz w f s3 s7 wr) (λ_ s7 _=>n+1-(intOf s7).toNat)
 case atStart=>exact⟨0,by omega,rfl,rfl,rfl⟩
 case round=>
  obtain⟨k,hk,rfl,rfl,rfl⟩:=hrel;have hN:=HN.out;have hb1:=jb (f.take k);have hb2:=fS f k
  by_cases hlt:k<n
  ·have aS:k<f.length:=by omega
   obtain⟨b,off,rfl,hb,hc⟩:=H.out (by omega);obtain⟨c0,c1,c2⟩:=hc k aS;have hst:=pi f k aS;have hb3:=fS f (k+1);rw[j1 f k aS]at hb3;generalize f[k]=x at c0 c1 c2 hst hb3;obtain⟨kd,tx,id⟩:=x;simp only at c0 c1 c2 hb3;generalize St.ay (f.take k)=m at *;haveI:af b w:=af.of hb;have hkl:(f.take k).length<=k:=by simp;omega
   unfold St.a7 at hst;simp only at hst
   by_cases du:kd=1
   ·subst du;simp only[if_true]at hst;have hz:(⟨tx.toArray⟩:ByteArray).size=tx.length:=by show tx.toArray.size=_;simp
    have y1:m+tx.length<=5000000000000000000:=by omega
    have HST:=aa hst;clear hst hc hb1 hb2;go_wp2;exact⟨⟨k+1,by omega,congrArg (UM US) (by omega),congrArg (UM US) (by rw[HST.out];omega),rfl⟩,by simp[intOf];omega⟩
   have z1:(kd==1)=false:=by simpa using du
   rw[if_neg du]at hst;have HST:=aa hst;clear hst hc;go_wp2;exact⟨⟨k+1,by omega,congrArg (UM US) (by omega),congrArg (UM US) (by rw[HST.out];omega),rfl⟩,by simp[intOf];omega⟩
  have hkn:k=n:=by omega
  have hf:f.take k=f:=List.take_of_length_le (by omega);rw[hf];subst hkn;clear hf hb1 hb2;go_wp2;go_ret;exact⟨rfl,rfl⟩
end
