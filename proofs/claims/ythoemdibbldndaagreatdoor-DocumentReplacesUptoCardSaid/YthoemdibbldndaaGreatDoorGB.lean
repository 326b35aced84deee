/- The contract of the reference's Normalize: what it gives is St.normL. -/
import Derived.Test.YthoemdibbldndaaGreatDoorGA
import Derived.Laws.OwnMore
import Derived.Laws.AppendOwnNone
import Derived.Deep.QuietTactic
import Derived.BigQuiet
set_option linter.all false
set_option maxHeartbeats 0
set_option maxRecDepth 20000
open Go.Value renaming int->VD,string->VE,slice->VF
open Go.IntKind renaming i64->VJ
open Go.Ending renaming returned->VL
open Go renaming World->VO
namespace Go.Proofs.YthoemdibbldndaaGreatDoor
open Go.RowKit
section
theorem jz(f:List St.It):(av f).length=f.length*3:=by
 induction f with
 | nil=>rfl
 | cons x f ih=>simp[av]at ih |-;omega
def sY(w:VO)(f:List St.It)(s3 s9:Value)(wr:VO):Prop:=
 ∃k:Nat,k<=f.length/\s9=VD VJ k/\wr.ownsRow w.1.size 36 3 s3 (St.bu (f.take k)).length (av (St.bu (f.take k)))/\aP (St.bu (f.take k))<=aP (f.take k)/\ac w wr
theorem JJ{w:VO}{B g n c:Nat}{o:List St.It}{y z:St.It}(h:w.ownsRow B 36 3 (VF (some ⟨g,0,none⟩) n c) n (av (o++[y])))(hn:o.length+1=n) :
  (((w.setCell ⟨g,o.length*3,none⟩ (VD VJ z.1)).setCell ⟨g,o.length*3+1,none⟩ (VE ⟨z.2.1.toArray⟩)).setCell ⟨g,o.length*3+2,none⟩ (VD VJ z.2.2)).ownsRow B 36 3 (VF (some ⟨g,0,none⟩) n c) n (av (o++[z])) /\
  w.grownBy (((w.setCell ⟨g,o.length*3,none⟩ (VD VJ z.1)).setCell ⟨g,o.length*3+1,none⟩ (VE ⟨z.2.1.toArray⟩)).setCell ⟨g,o.length*3+2,none⟩ (VD VJ z.2.2)) (some g):=by
 have h1:=h.stored (o.length*3) (VD VJ z.1);have h2:=h1.1.stored (o.length*3+1) (VE ⟨z.2.1.toArray⟩);have h3:=h2.1.stored (o.length*3+2) (VD VJ z.2.2);refine⟨?_,aK (aK h1.2 h2.2 (λg e=>Or.inl e)) h3.2 (λg e=>Or.inl e)⟩
 have e:av (o++[z])=((((av (o++[y])).set (o.length*3) (VD VJ z.1)).set (o.length*3+1) (VE ⟨z.2.1.toArray⟩)).set (o.length*3+2) (VD VJ z.2.2)):=by
  rw[bw,bw];have hl:=jz o;rw[List.set_append_right _ _ (by omega),List.set_append_right _ _ (by omega),List.set_append_right _ _ (by omega)];congr 1;rw[show o.length*3-(av o).length=0 by omega,show o.length*3+1-(av o).length=1 by omega,show o.length*3+2-(av o).length=2 by omega];rfl
 rw[e];exact h3.1
theorem rB(A:Option Addr)(n c:Nat)(f:List St.It)(w:VO)(hn:f.length=n)(h:aE w A f)(hl:n<=100000)(ht:aP f<=4611686018427387904) :
  Calls Tryz.prog 83 #[VF A n c] w λe w'=>∃v,e=VL v/\w'.ownsRow w.1.size 36 3 v (St.bu f).length (av (St.bu f))/\ac w w':=by
 have H:=aa h;have HN:=aa hn;have Nd:=aa ht;obtain⟨i0,hi,hz0,hz1,hz2⟩:=info_parts dA;clear h hn ht;go_enter Tryz.func83,Tryz.ntmps83;go_wp2;go_loopw [3,9] (λs3 s9 wr=>sY w f s3 s9 wr) (λ_ s9 _=>n+1-(intOf s9).toNat)
 case atStart=>exact⟨0,by omega,rfl,World.ownsRow_nil _ _ _ _,by simp[St.bu,aP],ac.refl _⟩
 case round=>
  obtain⟨k,hk,rfl,hown,oj,hu⟩:=hrel;have HU:=aa hu;have hsz:=hu.size
  by_cases hlt:k<n
  ·have aG:k<f.length:=by rw[HN.out];exact hlt
   obtain⟨b,off,rfl,hb,hc⟩:=(H.out.ah HU.out) (by omega);obtain⟨c0,c1,c2⟩:=hc k aG;have hnt:=Hi f k aG;have htk:=iW f k aG;have hle:=fG f (k+1)
   have K4:(St.bu (f.take k)).length<=100000:=by
    have:=St.iO (f.take k)
    simp at this;omega
   generalize f[k]=x at c0 c1 c2 hnt htk;obtain⟨kd,tx,id⟩:=x;simp only at c0 c1 c2 htk;have Bb:=gQ (St.bu (f.take k)) (kd,tx,id);generalize hO:St.bu (f.take k)=O at hown oj hnt K4 Bb;obtain⟨AO,cO,rfl,_⟩:=aC hown;have HOW:=aa hown;have kX:=aa hnt;have FR:=aa Bb;have oI:=aa htk;have va:=aa hle;have rl:=aa oj;haveI:af b wr:=af.of hb;generalize hol:O.length=m at hown HOW K4 |-;clear hc hown hu hnt Bb htk hle oj hO
   by_cases cI:kd=1
   ·subst cI
    by_cases htx:tx=[]
    ·subst htx;have hadd:St.aV O (1,[],id)=O:=by unfold St.aV;simp
     have hrel:sY w f (VF AO m cO) (VD VJ ((k+1:Nat):Int)) (wr.alloc (.cells #[VD VJ 1,VE ⟨#[]⟩,VD VJ id] 36)):=by
      refine⟨k+1,by omega,rfl,?_,?_,HU.out.alloc _⟩
      ·rw[kX.out,hadd,hol];exact HOW.out.alloc _
      rw[kX.out];have h1:=FR.out;have h2:=oI.out;have:=rl.out;simp only[List.length_nil]at h1 h2;omega
     have bn:=aa hrel;clear hadd hrel;go_wp2;exact⟨by simpa using bn.out,by simp[intOf];omega⟩
    have hne:((⟨tx.toArray⟩:ByteArray).toList==[])=false:=by
     rw[Lib.toList_data];simpa using htx
    have Jd:tx.isEmpty=false:=by simpa using htx
    rcases St.dD O with hO|⟨o,y,hO⟩
    ·subst hO;have hm0:m=0:=by rw[<-hol];rfl
     subst hm0;have ub:=aa (show St.aV [] (1,tx,id)=[]++[(1,tx,0)]by rw[St.gv];simp[htx]);clear htx;go_wp2_with (at_builtin;refine wpList_append_own _ rfl _ _ 37 rfl w.1.size 36 i0 (.agg #[.int .i64 0,.string ⟨#[]⟩,.int .i64 0]) 3 32 Tryz.underlying37 hi hz0 hz1 hz2 rfl (by decide) (.slice AO 0 cO) 0 _ rfl ((HOW.out.alloc _).alloc _) _ 1 1 [.int .i64 1,.string ⟨tx.toArray⟩,.int .i64 0] rfl rfl ?_ (cG _ _ _) (by unfold maxLen;omega) (by omega) ?_ ?_)
     ·omega
     intro v' w4 hown' hgrow _
     have hrel:sY w f v' (VD VJ ((k+1:Nat):Int)) w4:=by
      refine⟨k+1,by omega,rfl,?_,?_,((HU.out.alloc _).alloc _).grown hgrow (λg hg=>ax HOW.out g hg)⟩
      ·rw[kX.out,ub.out,bw,List.length_append,List.length_singleton,hol];exact hown'
      rw[kX.out];have:=FR.out;have:=oI.out;have:=rl.out;omega
     have bn:=aa hrel;clear hown' hgrow hrel;go_wp2;exact⟨by simpa using bn.out,by simp[intOf];omega⟩
    subst hO;obtain⟨l,rfl⟩:∃l,m=l+1:=⟨o.length,by rw[<-hol];simp⟩;have EB:o.length=l:=by simpa using hol
    obtain⟨g,rfl,hg1,hg2,hgc⟩:=dY HOW.out (by omega);obtain⟨d0,d1,d2⟩:=jT (o++[y]) l (by simp;omega);have hy:(o++[y])[l]'(by simp;omega)=y:=by simp[EB]
    rw[hy]at d0 d1 d2;have q0:=hgc _ _ d0;have q1:=hgc _ _ d1;have q2:=hgc _ _ d2;have r0:=HOW.out.frozenAt (l*3);have r1:=HOW.out.frozenAt (l*3+1);have r2:=HOW.out.frozenAt (l*3+2);haveI:af g wr:=af.of hg2;have GH:((l+1:Nat):Int)-1=(l:Int):=by omega
    obtain⟨yk,yt,yi⟩:=y;simp only at q0 q1 q2;clear d0 d1 d2 hgc hy
    by_cases hyk:yk=1
    ·subst hyk;have ub:=aa (show St.aV (o++[(1,yt,yi)]) (1,tx,id)=o++[(1,yt++tx,0)]by rw[St.dJ];simp[htx]);have iC:((⟨yt.toArray⟩:ByteArray)++(⟨tx.toArray⟩:ByteArray))=⟨(yt++tx).toArray⟩:=by apply ByteArray.ext;simp
     have UH:¬9223372036854775807<yt.length+tx.length:=by
      have h1:=rl.out;have h2:=oI.out;have h3:=va.out;have h4:=Nd.out;rw[ci]at h1;simp only at h1 h2;omega
     have hlast:=JJ (z:=(1,yt++tx,0)) HOW.out (by omega)
     have Lb:∀W:VO,(W.ownsRow w.1.size 36 3 (VF (some ⟨g,0,none⟩) (l+1) cO) (l+1) (av (o++[(1,yt++tx,0)]))/\wr.grownBy W (some g))->sY w f (VF (some ⟨g,0,none⟩) (l+1) cO) (VD VJ ((k+1:Nat):Int)) W:=by
      intro W hW;refine⟨k+1,by omega,rfl,?_,?_,HU.out.grown hW.2 (λg' e=>by cases e;exact hg1)⟩
      ·rw[kX.out,ub.out,List.length_append,List.length_singleton,EB];exact hW.1
      rw[kX.out];have h1:=FR.out;have h2:=oI.out;have:=rl.out;simp only at h1 h2;omega
     have hrel:=Lb _ ⟨aA ((ac.refl _).alloc (.cells #[VD VJ 1,VE ⟨tx.toArray⟩,VD VJ id] 36)).drew hlast.1,bE hlast.2 ((ac.refl _).alloc (.cells #[VD VJ 1,VE ⟨tx.toArray⟩,VD VJ id] 36)).drew⟩;rw[EB]at hrel;have bn:=aa hrel;clear hrel Lb hlast htx EB;go_wp2_with fail;go_region
     all_goals
      go_wp2;exact⟨by simpa using bn.out,by simp[intOf];omega⟩
    have UN:(yk==1)=false:=by simpa using hyk
    have ub:=aa (show St.aV (o++[(yk,yt,yi)]) (1,tx,id)=(o++[(yk,yt,yi)])++[(1,tx,0)]by rw[St.dJ];simp[htx,hyk]);clear htx hyk;go_wp2_with (at_builtin;refine wpList_append_own _ rfl _ _ 37 rfl w.1.size 36 i0 (.agg #[.int .i64 0,.string ⟨#[]⟩,.int .i64 0]) 3 32 Tryz.underlying37 hi hz0 hz1 hz2 rfl (by decide) (.slice (some ⟨g,0,none⟩) (l+1) cO) (l+1) _ rfl ((HOW.out.alloc _).alloc _) _ 1 1 [.int .i64 1,.string ⟨tx.toArray⟩,.int .i64 0] rfl rfl ?_ (cG _ _ _) (by unfold maxLen;omega) (by omega) ?_ ?_)
    ·omega
    intro v' w4 hown' hgrow _
    have hrel:sY w f v' (VD VJ ((k+1:Nat):Int)) w4:=by
     refine⟨k+1,by omega,rfl,?_,?_,((HU.out.alloc _).alloc _).grown hgrow (λg hg=>ax HOW.out g hg)⟩
     ·rw[kX.out,ub.out,bw,List.length_append,List.length_singleton,hol];exact hown'
     rw[kX.out];have:=FR.out;have:=oI.out;have:=rl.out;omega
    have bn:=aa hrel;clear hown' hgrow hrel;go_wp2;exact⟨by simpa using bn.out,by simp[intOf];omega⟩
   have hkb:(kd==1)=false:=by simpa using cI
   have hadd:St.aV O (kd,tx,id)=O++[(kd,tx,id)]:=by unfold St.aV;rw[if_neg cI]
   have ub:=aa hadd;clear cI hadd;go_wp2_with (at_builtin;refine wpList_append_own _ rfl _ _ 37 rfl w.1.size 36 i0 (.agg #[.int .i64 0,.string ⟨#[]⟩,.int .i64 0]) 3 32 Tryz.underlying37 hi hz0 hz1 hz2 rfl (by decide) (.slice AO m cO) m _ rfl ((HOW.out.alloc _).alloc _) _ 1 1 [.int .i64 kd,.string ⟨tx.toArray⟩,.int .i64 id] rfl rfl ?_ (cG _ _ _) (by unfold maxLen;omega) (by omega) ?_ ?_)
   ·omega
   intro v' w4 hown' hgrow _
   have hrel:sY w f v' (VD VJ ((k+1:Nat):Int)) w4:=by
    refine⟨k+1,by omega,rfl,?_,?_,((HU.out.alloc _).alloc _).grown hgrow (λg hg=>ax HOW.out g hg)⟩
    ·rw[kX.out,ub.out,bw,List.length_append,List.length_singleton,hol];exact hown'
    rw[kX.out];have:=FR.out;have:=oI.out;have:=rl.out;omega
   have bn:=aa hrel;clear hown' hgrow hrel;go_wp2;exact⟨by simpa using bn.out,by simp[intOf];omega⟩
  have hkn:k=n:=by have:=HN.out;omega
  subst hkn;have tL:f.take k=f:=List.take_of_length_le (by have:=HN.out;omega);rw[tL]at hown;have HOW:=aa hown;clear hown hu hlt tL oj;go_wp2;go_ret;exact⟨_,rfl,HOW.out,HU.out⟩
end
section
theorem aE.cells{w:VO}{ad:Addr}{f:List St.It}(h:aE w (some ad) f):∀j u,(av f)[j]?=some u->w.cell? (ad.add j)=some u:=by
 intro j u hj;have hl:j<f.length*3:=by rw[<-jz];exact(List.getElem?_eq_some_iff.1 hj).1
 obtain⟨b,off,e,hb,hc⟩:=h (by omega);cases e;have hadd:(⟨b,off,none⟩:Addr).add j=⟨b,off+j,none⟩:=by unfold Addr.add;split<;>simp_all
 rw[hadd];obtain⟨q,r,hr,rfl⟩:∃q r,r<3/\j=q*3+r:=⟨j / 3,j % 3,Nat.mod_lt _ (by decide),by omega⟩;obtain⟨c0,c1,c2⟩:=hc q (by omega);obtain⟨d0,d1,d2⟩:=jT f q (by omega)
 match r,hr,hj with
 | 0,_,hj=>exact c0.trans (d0.symm.trans hj)
 | 1,_,hj=>exact c1.trans (d1.symm.trans hj)
 | 2,_,hj=>exact c2.trans (d2.symm.trans hj)
theorem pj(f:List St.It):∀u∈av f,u.oneCell'=true:=by
 intro u hu;unfold av at hu;obtain⟨x,_,hx⟩:=List.mem_flatMap.1 hu;exact cG _ _ _ u hx
theorem lS(f g:List St.It):av (f++g)=av f++av g:=by simp[av]
theorem gG{ops:Array Oper}{rest:List Oper}{o:Oper}{a:Act}{w:VO}{Q:Exit->Act->VO->Prop}(hgd:o.guard=none)(s x:Operand)
  (ho:o.op=.call { callee:=.builtin .append,args:=#[s,x],argTypes:=#[37,37] })
  (base:Nat) (v:Value) (n:Nat) (O:List St.It) (hs:a.eval s=v) (hown:w.ownsRow base 36 3 v n (av O))
  (A:Option Addr) (m c:Nat) (f:List St.It) (hx:a.eval x=VF A m c) (hA:A=none->m=0/\c=0) (hI:aE w A f) (hm:f.length=m) (h63:n+m<=200000) (hbase:base<=w.1.size)
  (h:∀v' w',w'.ownsRow base 36 3 v' (n+m) (av (O++f))->w.grownBy w' v.ownBlock->wpList Tryz.prog ops Q rest (a.put o.dst v') w'):wpList Tryz.prog ops Q (o :: rest) a w:=by
 obtain⟨i0,hi,hz0,hz1,hz2⟩:=info_parts dA;cases A with
 | none=>
  obtain⟨rfl,rfl⟩:=hA rfl;have:f=[]:=List.eq_nil_of_length_eq_zero hm
  subst this;refine wpList_append_own_none hgd s x 37 ho base 36 i0 3 Tryz.underlying37 hi v n _ hs hown hx ?_;exact h v w (by simpa using hown) (bh _ _)
 | some ad=>
  refine wpList_append_own w hgd s x 37 ho base 36 i0 (.agg #[.int .i64 0,.string ⟨#[]⟩,.int .i64 0]) 3 32 Tryz.underlying37 hi hz0 hz1 hz2 rfl (by decide) v n _ hs hown ad m c (av f) hx (by rw[jz,hm]) hI.cells (pj f) (by unfold maxLen;omega) (by omega) hbase ?_;intro v' w' ho' hg _;exact h v' w' (by rw[lS];exact ho') hg
theorem gU(A:Option Addr)(n c:Nat)(f:List St.It)(B:Option Addr)(m d:Nat)(g:List St.It)(w:VO)(hn:f.length=n)(hm:g.length=m)(hA:A=none->n=0/\c=0)(hB:B=none->m=0/\d=0)
  (h:aE w A f) (h':aE w B g) (hl:n+m<=100000) (ht:aP (f++g)<=4611686018427387904) :
  Calls Tryz.prog 44 #[VF A n c,VF B m d] w λe w'=>∃v,e=VL v/\w'.ownsRow w.1.size 36 3 v (St.bu (f++g)).length (av (St.bu (f++g)))/\ac w w':=by
 have H:=aa h;have H':=aa h';have HT:=aa ht;clear h h' ht;go_enter Tryz.func44,Tryz.ntmps44;go_wp2_with (at_builtin;refine gG rfl _ _ rfl w.1.size (VF none 0 0) 0 [] rfl (World.ownsRow_nil _ _ _ _) A n c f rfl hA H.out hn (by omega) (Nat.le_refl _) ?_);intro v1 w1 ej hg1;have hu1:ac w w1:=(ac.refl w).grown hg1 (λg e=>by simp[Value.ownBlock]at e);have my:=aa ej;have iw:=aa hu1;have kY:=aa hu1.size;clear ej hg1 hu1;go_wp2_with (at_builtin;refine gG rfl _ _ rfl w.1.size v1 n f rfl my.out B m d g rfl hB (H'.out.ah iw.out) hm (by omega) kY.out ?_);intro v2 w2 fk hg2;have hu2:ac w w2:=iw.out.grown hg2 (λg hg=>ax my.out g hg);obtain⟨A2,c2,rfl,_,_,KU⟩:=aJ fk;have hlen:(f++g).length=n+m:=by simp[hn,hm]
 have aZ:=rB A2 (n+m) c2 (f++g) w2 hlen (aM fk hlen) hl HT.out;have bk:=aa aZ;have aW:=aa hu2;have cS:=aa hu2.size;clear fk hg2 hu2 aZ my iw kY;go_wp2_with (go_at_call 83;refine bk.out.mono ?_;rintro e w3 ⟨v3,rfl,bB,hu3⟩);have eS:=aa (cC bB cS.out);have ba:=aa (aW.out.trans hu3);clear bB hu3;go_wp2;go_ret;exact⟨_,rfl,eS.out,ba.out⟩
end
section
theorem kP(k:Int)(t:ByteArray)(i:Int)(w:VO):Calls Tryz.prog 108 #[.agg #[VD VJ k,VE t,VD VJ i]] w λe w'=>e=VL (.bool (St.bI k))/\ac w w':=by
 by_cases h2:k=2
 ·subst h2;go_enter Tryz.func108,Tryz.ntmps108;go_wp2;go_ret;exact⟨rfl,uZ⟩
 have z2:(k==2)=false:=by simpa using h2
 by_cases h3:k=3
 ·subst h3;go_enter Tryz.func108,Tryz.ntmps108;go_wp2;go_ret;exact⟨rfl,uZ⟩
 have z3:(k==3)=false:=by simpa using h3
 by_cases h4:k=4
 ·subst h4;go_enter Tryz.func108,Tryz.ntmps108;go_wp2;go_ret;exact⟨rfl,uZ⟩
 have z4:(k==4)=false:=by simpa using h4
 have hr:=aa (show St.bI k=false by unfold St.bI;simp[h2,h3,h4]);clear h2 h3 h4;go_enter Tryz.func108,Tryz.ntmps108;go_wp2;go_ret;exact⟨ay hr.out.symm,uZ⟩
def PF(s:ByteArray)(i:Value):Prop:=∃k:Nat,i=VD VJ k/\k<=s.size/\(St.nameOf s.1.1).length=k+(St.nameOf (s.1.1.drop k)).length
theorem yK(s:ByteArray)(w:VO)(hs:s.size<=4611686018427387904):Calls Tryz.prog 105 #[VE s] w λe w'=>∃t:ByteArray,e=VL (VE t)/\t.1.1=St.nameOf s.1.1/\w=w':=by
 have hpre:St.nameOf s.1.1=s.1.1.take (St.nameOf s.1.1).length:=List.prefix_iff_eq_take.1 (List.takeWhile_prefix _);have zL:=aa hpre;clear hpre;go_enter Tryz.func105,Tryz.ntmps105;go_wp2;go_loopw [3] (λi wr=>PF s i/\w=wr) (λi _=>s.size+1-(intOf i).toNat)
 case atStart=>exact⟨⟨0,rfl,by omega,by simp⟩,rfl⟩
 case round=>
  obtain⟨⟨k,rfl,hk,hl⟩,rfl⟩:=hrel
  by_cases hlt:k<s.size
  ·have aw:=St.drop_at s k hlt;have z1:(k:Int)<s.size:=by omega
   by_cases QI:s[k].toNat=32
   ·have z2:((s[k].toNat:Int)==32)=true:=by simp;omega
    have hn:St.nameOf (s.1.1.drop k)=[]:=by rw[aw];unfold St.nameOf;rw[List.takeWhile_cons_of_neg (by simp[QI])]
    rw[hn]at hl;have hr:=aa (show(s.extract 0 k).1.1=St.nameOf s.1.1 by rw[zL.out,hl,Lib.extract_data];simp);have y1:(0:Int)<=(k:Int):=by omega
    have y2:(k:Int)<=s.size:=by omega
    clear hl hn aw zL;go_wp2;go_ret;exact⟨_,rfl,hr.out,rfl⟩
   have z2:((s[k].toNat:Int)==32)=false:=by simp;omega
   have hn:(St.nameOf (s.1.1.drop k)).length=1+(St.nameOf (s.1.1.drop (k+1))).length:=by
    rw[aw];unfold St.nameOf;rw[List.takeWhile_cons_of_pos (by simpa using QI)];simp;omega
   have HL:=aa (show(St.nameOf s.1.1).length=(k+1)+(St.nameOf (s.1.1.drop (k+1))).length by omega);clear hl hn aw zL;go_wp2;exact⟨⟨⟨k+1,congrArg (VD VJ) (by omega),by omega,HL.out⟩,by trivial⟩,by simp[intOf];omega⟩
  have yc:k=s.size:=by omega
  subst yc;have z1:¬(s.size:Int)<s.size:=by omega
  have hn:St.nameOf (s.1.1.drop s.size)=[]:=by rw[List.drop_of_length_le (by simp)];rfl
  rw[hn]at hl
  have hr:=aa (show s.1.1=St.nameOf s.1.1 by
   conv=>rhs;rw[zL.out]
   rw[hl]
   exact(List.take_of_length_le (by simp)).symm)
  clear hl hn zL;go_wp2;go_ret;exact⟨s,rfl,hr.out,rfl⟩
theorem jo(s:ByteArray)(l:List UInt8):(s.toList==l)=decide (s.1.1=l):=by
 rw[Lib.toList_data]
 by_cases h:s.1.1=l
 ·rw[h];simp
 simp[h]
theorem rU(s:ByteArray)(w:VO):Calls Tryz.prog 109 #[VE s] w λe w'=>e=VL (.bool (St.df s.1.1))/\w=w':=by
 have h1:=jo s [112];have h2:=jo s [104];have h3:=jo s [108,105];have h4:=jo s [116,100];have h5:=jo s [116,105,116,108,101]
 have hr:St.df s.1.1=(decide (s.1.1=[112]) || (decide (s.1.1=[104]) || (decide (s.1.1=[108,105]) || (decide (s.1.1=[116,100]) || decide (s.1.1=[116,105,116,108,101]))))):=by
  unfold St.df;simp only[Bool.decide_or]
 rw[hr];generalize decide (s.1.1=[112])=b1 at h1 |-;generalize decide (s.1.1=[104])=b2 at h2 |-;generalize decide (s.1.1=[108,105])=b3 at h3 |-;generalize decide (s.1.1=[116,100])=b4 at h4 |-;generalize decide (s.1.1=[116,105,116,108,101])=b5 at h5 |-;clear hr;cases b1
 ·cases b2
  ·cases b3
   ·cases b4
    ·go_enter Tryz.func109,Tryz.ntmps109;go_wp2;go_ret;exact⟨by simp,rfl⟩
    go_enter Tryz.func109,Tryz.ntmps109;go_wp2;go_ret;exact⟨by simp,rfl⟩
   go_enter Tryz.func109,Tryz.ntmps109;go_wp2;go_ret;exact⟨by simp,rfl⟩
  go_enter Tryz.func109,Tryz.ntmps109;go_wp2;go_ret;exact⟨by simp,rfl⟩
 go_enter Tryz.func109,Tryz.ntmps109;go_wp2;go_ret;exact⟨by simp,rfl⟩
def Pz(w:VO)(f:List St.It)(s3 s7:Value)(wr:VO):Prop:=∃k:Nat,k<=f.length/\s7=VD VJ k/\s3=VD VJ (St.aR (f.take k):Nat)/\w=wr
theorem oY(f:List St.It)(k:Nat)(h:k<f.length):St.aR (f.take (k+1))=St.aR (f.take k)+St.bG f[k]:=by
 rw[List.take_add_one,List.getElem?_eq_getElem h];exact St.gr _ _
theorem fW(f:List St.It):St.aR f<=aP f+f.length:=by
 induction f with
 | nil=>simp[St.aR]
 | cons x f ih=>
  have h1:St.bG x<=x.2.1.length+1:=by unfold St.bG;split<;>omega
  simp only[St.aR,aP,List.map_cons,List.sum_cons,List.length_cons]at ih |-;omega
theorem jc(A:Option Addr)(n c:Nat)(f:List St.It)(w:VO)(hn:f.length=n)(h:aE w A f)(hl:n<=1000000000000)(ht:aP f<=4611686018427387904) :
  Calls Tryz.prog 29 #[VF A n c] w λe w'=>e=VL (VD VJ (St.aR f:Nat))/\w=w':=by
 have H:=aa h;have HN:=aa hn;clear h hn;go_enter Tryz.func29,Tryz.ntmps29;go_wp2;go_loopw [3,7] (λs3 s7 wr=>Pz w f s3 s7 wr) (λ_ s7 _=>n+1-(intOf s7).toNat)
 case atStart=>exact⟨0,by omega,rfl,rfl,rfl⟩
 case round=>
  obtain⟨k,hk,rfl,rfl,rfl⟩:=hrel;have hN:=HN.out;have hb1:=fW (f.take k);have hb2:=fG f k
  by_cases hlt:k<n
  ·have aG:k<f.length:=by omega
   obtain⟨b,off,rfl,hb,hc⟩:=H.out (by omega);obtain⟨c0,c1,c2⟩:=hc k aG;have hst:=oY f k aG;have hb3:=fG f (k+1);rw[iW f k aG]at hb3;generalize f[k]=x at c0 c1 c2 hst hb3;obtain⟨kd,tx,id⟩:=x;simp only at c0 c1 c2 hb3;generalize St.aR (f.take k)=m at *;haveI:af b w:=af.of hb;have hkl:(f.take k).length<=k:=by simp;omega
   unfold St.bG at hst;simp only at hst
   by_cases cI:kd=1
   ·subst cI;simp only[if_true]at hst;have hz:(⟨tx.toArray⟩:ByteArray).size=tx.length:=by show tx.toArray.size=_;simp
    have y1:m+tx.length<=5000000000000000000:=by omega
    have HST:=aa hst;clear hst hc hb1 hb2;go_wp2;exact⟨⟨k+1,by omega,congrArg (VD VJ) (by omega),congrArg (VD VJ) (by rw[HST.out];omega),rfl⟩,by simp[intOf];omega⟩
   have z1:(kd==1)=false:=by simpa using cI
   rw[if_neg cI]at hst;have HST:=aa hst;clear hst hc;go_wp2;exact⟨⟨k+1,by omega,congrArg (VD VJ) (by omega),congrArg (VD VJ) (by rw[HST.out];omega),rfl⟩,by simp[intOf];omega⟩
  have hkn:k=n:=by omega
  have hf:f.take k=f:=List.take_of_length_le (by omega);rw[hf];subst hkn;clear hf hb1 hb2;go_wp2;go_ret;exact⟨rfl,rfl⟩
end
