/- The contract of the reference's Replace: what it gives is St.replD. -/
import Derived.Test.YthoemdibbldndaaGreatDoorDocX
import Derived.Test.YthoemdibbldndaaGreatDoorRefNumG
import Derived.Deep.CutRange
set_option linter.all false
set_option maxHeartbeats 0
set_option maxRecDepth 20000
open Go.Value renaming int->VD,string->VE,slice->VF,pointer->VH,tuple->VI
open Go.IntKind renaming i64->VJ
open Go.Obj renaming cells->VK
open Option renaming none->VM,some->VN
open Go renaming World->VO
namespace Go.Proofs.YthoemdibbldndaaGreatDoor
open Go.RowKit
structure H2 (w W:VO) (fmt:Int) (A:Option Addr) (n c:Nat):Prop where
 u:ac w W
 b0:W.1[w.1.size]?=VN (VK #[VD VJ fmt,VF A n c] 25)
 b1:W.1[w.1.size+1]?=VN (VK #[VD VJ 0,VF VM 0 0] 25)
theorem H2.start(w:VO)(fmt:Int)(A:Option Addr)(n c:Nat):H2 w ((w.alloc (VK #[VD VJ fmt,VF A n c] 25)).alloc (VK #[VD VJ 0,VF VM 0 0] 25)) fmt A n c:=by
 have e1:=heap_alloc_new w (VK #[VD VJ fmt,VF A n c] 25);have e2:=heap_alloc_new (w.alloc (VK #[VD VJ fmt,VF A n c] 25)) (VK #[VD VJ 0,VF VM 0 0] 25);have u1:=(ac.refl (w.alloc (VK #[VD VJ fmt,VF A n c] 25))).alloc (VK #[VD VJ 0,VF VM 0 0] 25);refine⟨uZ,(u1.below.block w.1.size (by simp)).trans e1,?_⟩;have hs:(w.alloc (VK #[VD VJ fmt,VF A n c] 25)).1.size=w.1.size+1:=by simp
 rw[hs]at e2;exact e2
section
variable {w W W':VO} {fmt:Int} {A:Option Addr} {n c:Nat}
theorem H2.ah(h:H2 w W fmt A n c)(u:ac W W'):H2 w W' fmt A n c:=⟨h.u.trans u,(u.below.block _ (ae h.b0)).trans h.b0,(u.below.block _ (ae h.b1)).trans h.b1⟩
theorem H2.lN(h:H2 w W fmt A n c):W.cell? ⟨w.1.size,0,VM⟩=VN (VD VJ fmt):=ai h.b0 0
theorem H2.pI(h:H2 w W fmt A n c):W.cell? ⟨w.1.size,1,VM⟩=VN (VF A n c):=ai h.b0 1
theorem H2.bl(h:H2 w W fmt A n c):W.cell? ⟨w.1.size+1,0,VM⟩=VN (VD VJ 0):=ai h.b1 0
theorem H2.j4(h:H2 w W fmt A n c):W.cell? ⟨w.1.size+1,1,VM⟩=VN (VF VM 0 0):=ai h.b1 1
theorem H2.f10(h:H2 w W fmt A n c):W.frozen? ⟨w.1.size+1,0,VM⟩=false:=bg h.b1 0
theorem H2.f11(h:H2 w W fmt A n c):W.frozen? ⟨w.1.size+1,1,VM⟩=false:=bg h.b1 1
theorem H2.l0(h:H2 w W fmt A n c):af w.1.size W:=af.of (ae h.b0)
theorem H2.l1(h:H2 w W fmt A n c):af (w.1.size+1) W:=af.of (ae h.b1)
theorem H2.set(h:H2 w W fmt A n c)(u v:Value):ac w ((W.setCell ⟨w.1.size+1,0,VM⟩ u).setCell ⟨w.1.size+1,1,VM⟩ v):=
 ac.mk ((h.u.below.setCell (p:=⟨w.1.size+1,0,VM⟩) (by simp) u).setCell (p:=⟨w.1.size+1,1,VM⟩) (by simp) v)
end
def zy(w9:VO)(fmt:Int)(n:Nat)(ps:List St.Pt)(OM:Value)(W:VO):Prop:=
 ∃(gd g cap:Nat) (cur:Array Value),OM=VH (VN ⟨gd,0,VM⟩)/\w9.1.size<=gd/\w9.1.size<=g/\gd≠g/\W.1[gd]?=VN (VK #[VD VJ fmt,VF (VN ⟨g,0,VM⟩) n cap] 25) /\
  W.1[g]?=VN (VK cur 64)/\cur.size=cap*3/\n<=cap/\cap<=9223372036854775807/\cur.toList.take (n*3)=bD ps/\ac w9 W
theorem Ce{w9 gu:VO}{fmt:Int}{n B g cap:Nat}{ps:List St.Pt}(ho:gu.ownsRow B 64 3 (VF (VN ⟨g,0,VM⟩) n cap) n (bD ps))(hB:w9.1.size<=B)(u:ac w9 gu)(h0:0<n) :
  zy w9 fmt n ps (VH (VN ⟨gu.1.size,0,VM⟩)) (gu.alloc (VK #[VD VJ fmt,VF (VN ⟨g,0,VM⟩) n cap] 25)):=by
 rcases ho.2 with⟨_,e2⟩|⟨g',cap',cur,he,hb,hg,h1,h2,h3,h4⟩
 ·omega
 cases he;have hlt:=ae hg;have u2:=(ac.refl gu).alloc (VK #[VD VJ fmt,VF (VN ⟨g,0,VM⟩) n cap] 25);exact⟨_,g,cap,cur,rfl,u.size,by omega,by omega,heap_alloc_new _ _,(u2.below.block g hlt).trans hg,h3,h1,by unfold maxLen at h2;omega,h4,u.trans u2⟩
theorem Af{w9 gu:VO}{fmt:Int}{n B g cap:Nat}{ps:List St.Pt}(ho:gu.ownsRow B 64 3 (VF (VN ⟨g,0,VM⟩) n cap) n (bD ps))(hB:w9.1.size<=B)(u:ac (w9.alloc (VK #[VD VJ 0,VF VM 0 0] 25)) gu)(h0:0<n) :
  zy w9 fmt n ps (VH (VN ⟨w9.1.size,0,VM⟩)) ((gu.setCell ⟨w9.1.size,0,VM⟩ (VD VJ fmt)).setCell ⟨w9.1.size,1,VM⟩ (VF (VN ⟨g,0,VM⟩) n cap)):=by
 rcases ho.2 with⟨_,e2⟩|⟨g',cap',cur,he,hb,hg,h1,h2,h3,h4⟩
 ·omega
 cases he;have hgd:=(u.below.block w9.1.size (by simp)).trans (heap_alloc_new w9 (VK #[VD VJ 0,VF VM 0 0] 25));have n9:g≠w9.1.size:=λe=>aQ ho hgd (by decide) (by rw[<-e];rfl)
 have e1:=heap_setCell_same _ _ 0 _ _ (VD VJ fmt) hgd;have e2:=heap_setCell_same _ _ 1 _ _ (VF (VN ⟨g,0,VM⟩) n cap) e1;have u9:ac w9 gu:=((ac.refl w9).alloc _).trans u;have u2:ac w9 ((gu.setCell ⟨w9.1.size,0,VM⟩ (VD VJ fmt)).setCell ⟨w9.1.size,1,VM⟩ (VF (VN ⟨g,0,VM⟩) n cap)):=(u9.setCell (p:=⟨w9.1.size,0,VM⟩) (Nat.le_refl _) _).setCell (p:=⟨w9.1.size,1,VM⟩) (Nat.le_refl _) _;refine⟨_,g,cap,cur,rfl,Nat.le_refl _,by omega,by omega,e2,?_,h3,h1,by unfold maxLen at h2;omega,h4,u2⟩;rw[heap_setCell_other _ _ _ _ (show g≠(⟨w9.1.size,1,VM⟩:Addr).block by simp only;omega),heap_setCell_other _ _ _ _ (show g≠(⟨w9.1.size,0,VM⟩:Addr).block by simp only;omega)];exact hg
theorem Cv(ps:List St.Pt)(k:Nat)(s:List UInt8)(h:k<ps.length):(St.bp (St.dj ps k s)).length+ps[k].2.2.length=(St.bp ps).length+s.length:=by
 induction ps generalizing k with
 | nil=>simp at h
 | cons x ps ih=>
  match k,h with
  | 0,_=>simp[St.dj,St.bp];omega
  | k+1,h=>
   have:=ih k (by simpa using h)
   have e1:St.bp (St.dj (x :: ps) (k+1) s)=x.2.2++St.bp (St.dj ps k s):=rfl;have e2:St.bp (x :: ps)=x.2.2++St.bp ps:=rfl;rw[e1,e2,List.length_append,List.length_append];simp only[List.getElem_cons_succ];omega
def DG(w w3:VO)(fmt:Int)(A:Option Addr)(n c L:Nat)(rs:List (Int × Int))(gE sL:Value)(wr:VO):Prop:=
 ∃(k:Nat) (a:Int),k<=rs.length/\sL=VD VJ k/\gE=VD VJ a/\St.dM L 0 rs=St.dM L a (rs.drop k)/\H2 w wr fmt A n c/\ac w3 wr
def Ke(w w3:VO)(fmt:Int)(A:Option Addr)(n c:Nat)(au:List UInt8)(cuts:List Nat)(L:Nat)(f:List St.It)(rs:List (Int × Int))(ts:List (List St.It))(OK OL BP gE BO:Value)(wr:VO):Prop:=
 ∃(i a x:Nat) (sB:ByteArray) (O:List St.It) (A7:Option Addr) (c7:Nat),i<=rs.length/\BO=VD VJ i/\OL=VD VJ a/\OK=VE sB/\gE=VD VJ x/\BP=VF A7 O.length c7/\a<=cuts.getD x 0/\x<=L/\St.dM L x (rs.drop i)=true/\sB.size<=2000000*i /\
  St.mL (St.bj fmt) au cuts 0 [] rs ts=St.mL (St.bj fmt) au cuts a sB.1.1 (rs.drop i) (ts.drop i)/\aE wr A7 O/\(A7=VM->O.length=0/\c7=0)/\O.length<=1700*i/\aP O<=200000000*i/\St.mr f 0 [] rs ts=St.mr f x O (rs.drop i) (ts.drop i)/\H2 w wr fmt A n c/\ac w3 wr
theorem sK(fmt:Int)(hk:fmt=1\/fmt=2\/fmt=3)(A B C:Option Addr)(n c m d m2 e0:Nat)(ps:List St.Pt)(k:Int)(rs:List (Int × Int))(ts:List (List St.It))(w:VO)(hn:ps.length=n)(hnc:n<=c)(cN:c<=9223372036854775807)(hm:rs.length=m)(hm2:ts.length=m2)(h:aY w A ps)(hB:dL w B rs)(hC:fS w C ts)(hl:n<=1000000)(hr:(St.bp ps).length<=1000000)(fj:m<=20)
  (hts:∀t∈ts,t.length<=1100/\aP t<=20000000):Calls Tryz.prog 31 #[.agg #[VD VJ fmt,VF A n c],VD VJ k,VF B m d,VF C m2 e0] w (dw (St.eH (jf fmt) (lM fmt) (St.bj fmt) fmt ps k rs ts) w):=by
 have HV:=aa (λW (hW:ac w W)=>Hv A n c ps W (OI fmt hk) hn hnc cN (h.ah hW) (by omega) (by omega));have HC:=λW (hW:ac w W)=>sD fmt A n c ps k W hn (h.ah hW) (by omega) (by omega)
 have AM:CD fmt ps k=St.bL (jf fmt) ps k:=by unfold CD;rw[if_pos hk]
 rw[AM]at HC;have HC:=aa HC;clear AM
 by_cases hv:St.eZ (lM fmt) ps=0
 rotate_left 1
 ·have hR:=aa (St.Dv (D:=jf fmt) (E:=St.bj fmt) (fmt:=fmt) (k:=k) (rs:=rs) (ts:=ts) hv);generalize St.eH (jf fmt) (lM fmt) (St.bj fmt) fmt ps k rs ts=RR at *;generalize St.eZ (lM fmt) ps=vv at *;have z5:(vv==0)=false:=by simpa using hv
  have z6:(vv != 0)=true:=by simpa using hv
  clear h hB hC hv hts;go_enter Tryz.func31,Tryz.ntmps31;go_wp2_with fail;refine(HV.out _ uZ).mono ?_;rintro e w1 ⟨rfl,hu1⟩;have hd2:=(H2.start w fmt A n c).ah hu1;have r0:=hd2.bl;have r1:=hd2.j4;have q0:=hd2.f10;have q1:=hd2.f11;haveI l1:=hd2.l1;have bJ:=aa hd2;clear hd2 hu1;go_wp2;refine bodyPost_ret (v:=VI #[.agg #[VD VJ 0,VF VM 0 0],VD VJ vv]) ?_ rfl ?_
  ·simp[results,Tryz.results31,go_sem,r0,r1]
  exact dw.fX hR.out (bJ.out.set _ _)
 by_cases hc:(St.bL (jf fmt) ps k).2.2.2=0
 rotate_left 1
 ·have hR:=aa (St.Dt (E:=St.bj fmt) (fmt:=fmt) (rs:=rs) (ts:=ts) hv hc);rw[hv]at HV;generalize St.bL (jf fmt) ps k=R at *;generalize St.eH (jf fmt) (lM fmt) (St.bj fmt) fmt ps k rs ts=RR at *;obtain⟨f,cuts,tt,er⟩:=R;simp only at hc hR;have z5:(er==0)=false:=by simpa using hc
  have z6:(er != 0)=true:=by simpa using hc
  clear h hB hC hc hts;go_enter Tryz.func31,Tryz.ntmps31;go_wp2_with fail;refine(HV.out _ uZ).mono ?_;rintro e w1 ⟨rfl,hu1⟩;have hd1:=(H2.start w fmt A n c).ah hu1;have a0:=hd1.lN;have a1:=hd1.pI;haveI l0:=hd1.l0;have oF:=aa hd1;clear hd1 hu1;go_wp2_with fail;refine(HC.out _ oF.out.u).mono ?_;rintro e w2 ⟨A2,c2,rfl,hI,hc2,hc3,hu2⟩;have hd2:=oF.out.ah hu2;clear a0 a1 l0;have r0:=hd2.bl;have r1:=hd2.j4;have q0:=hd2.f10;have q1:=hd2.f11;haveI l1:=hd2.l1;have bJ:=aa hd2;clear hd2 hu2 hI;simp only;go_wp2;refine bodyPost_ret (v:=VI #[.agg #[VD VJ 0,VF VM 0 0],VD VJ er]) ?_ rfl ?_
  ·simp[results,Tryz.results31,go_sem,r0,r1]
  exact dw.fX hR.out (bJ.out.set _ _)
 rw[hv]at HV;obtain⟨j,hj,rfl,hun,j6,hpt⟩:=St.ta hc;have C4:=λhh=>St.Ds (D:=jf fmt) (S:=lM fmt) (E:=St.bj fmt) (fmt:=fmt) (ps:=ps) (k:=(j:Int)) (rs:=rs) (ts:=ts) hv hc hh
 have AF:=λh1 h2=>St.Du (D:=jf fmt) (S:=lM fmt) (E:=St.bj fmt) (fmt:=fmt) (ps:=ps) (k:=(j:Int)) (rs:=rs) (ts:=ts) hv hc h1 h2
 rw[j6]at hc HC C4 AF;rw[hpt]at AF;have La:=pZ ps j hj;have hrs:=λs=>Cv ps j s hj
 obtain⟨b,off,rfl,hb,hcl⟩:=h (by omega);have sr:=(hcl j hj).2.2;have hok:=vp hk _ hc;obtain⟨dS,hrw'⟩:∃dS:ByteArray,dS=⟨ps[j].2.2.toArray⟩:=⟨_,rfl⟩;have hrl:dS.1.1=ps[j].2.2:=by rw[hrw']
 have pU:dS.size=ps[j].2.2.length:=by rw[<-hrl,St.aD]
 rw[<-hrw']at sr;have FG:=aa (λW=>xe fmt hk dS W (by omega));have zE:=aa (λ(s:ByteArray) W (hs:s.size<=1000000000)=>xe fmt hk s W hs);have u0:=aa (λW (hW:ac w W)=>vW fmt (VN ⟨b,off,VM⟩) n c ps W hn (h.ah hW) (by omega) (by omega));have HH:=aa h;have HB:=aa hB;have rk:=aa hC;rw[hrl]at FG;generalize qA:ps[j].2.2=au at *;generalize Tq:jf fmt=D at *;generalize D au=R at hc HC C4 AF hok FG;obtain⟨f,cuts,tt,er⟩:=R;have hcut:=hok.cl;have htot:=hok.aP;have hle:=hok.le;have hlen:=hok.len;have hmono:=hok.mono;have htop:=hok.top;simp only at hc hcut htot hle hlen hmono htop FG C4 AF;subst hc;generalize St.eH D (lM fmt) (St.bj fmt) fmt ps (j:Int) rs ts=RR at *;obtain⟨L,hL⟩:∃L,L=St.aR f:=⟨_,rfl⟩;rw[<-hL]at C4 AF hcut;have M7:=aa C4;have Qu:=aa AF;have rm:=aa hts;have xx:=aa hmono;have xD:=aa htop;have HM:=aa hm;have oH:=aa hm2;have vb:=aa hrl;have MI:=aa hcl;have rL:=aa sr;have FD:=aa hb;have HL:=aa hL;have KD:=aa hrs;have HN:=aa hn;clear hok j6 hpt hun C4 AF hts hmono htop hrw' hB hC h hcl sr hrs hL hv qA Tq;go_enter Tryz.func31,Tryz.ntmps31;go_wp2_with fail;refine(HV.out _ uZ).mono ?_;rintro e w1 ⟨rfl,hu1⟩;have hd1:=(H2.start w fmt (VN ⟨b,off,VM⟩) n c).ah hu1;have a0:=hd1.lN;have a1:=hd1.pI;haveI l0:=hd1.l0;have oF:=aa hd1;clear hd1 hu1;go_wp2_with fail;refine(HC.out _ oF.out.u).mono ?_;rintro e w2 ⟨A2,c2,rfl,hI,hc2,hc3,hu2⟩;have HI:=aa hI;have hd2:=oF.out.ah hu2;have bJ:=aa hd2;clear a0 a1 l0;have a0:=hd2.lN;have a1:=hd2.pI;haveI l0:=hd2.l0;have p0:=(hd2.u.cell (p:=⟨b,off+j*3+2,VM⟩) FD.out).trans rL.out;haveI lb:af b w2:=af.of (Nat.lt_of_lt_of_le hb hd2.u.size);have y1:(j:Int)<(n:Int):=by omega
 have y2:¬(j:Int)<0:=by omega
 clear hd2 hu2 hI;simp only;go_wp2_with fail;refine(FG.out _).mono ?_;rintro e w3 ⟨v3,v4,rfl,bB,iD,hu3⟩;simp only at bB iD;obtain⟨A3,c3,rfl,_,_⟩:=aC bB;obtain⟨A4,c4,rfl,hc41,hc42⟩:=aC iD;have SS:=aa (qL iD rfl);have MK:=aa (HI.out.ah hu3);have hd3:=bJ.out.ah hu3;have rG:=aa hd3;clear a0 a1 l0 p0 lb bB iD hu3 HI;have PT:=hcut;generalize hN4:cuts.length=N4 at hcut |- hc41
 by_cases hmm:m2=m
 rotate_left 1
 ·have hR:=aa (show RR=((0,[]),1)from M7.out (.inl (by have:=HM.out;have:=oH.out;omega)));have z2:((m:Int) != (m2:Int))=true:=by simp;omega
  clear hmm;have r0:=hd3.bl;have r1:=hd3.j4;have q0:=hd3.f10;have q1:=hd3.f11;haveI l1:=hd3.l1;have bJ:=aa hd3;clear hd3;go_wp2;refine bodyPost_ret (v:=VI #[.agg #[VD VJ 0,VF VM 0 0],VD VJ 1]) ?_ rfl ?_
  ·simp[results,Tryz.results31,go_sem,r0,r1]
  exact dw.fX hR.out (bJ.out.set _ _)
 subst hmm;have nJ:=aa (λ(hf:St.dM L 0 rs=false)=>M7.out (.inr hf));have jx:=aa (λhf=>Qu.out (by rw[HM.out,oH.out]) hf);clear hd3 M7 Qu;have Ey:=λ(W:VO) (hW:ac w3 W)=>(jc A2 f.length c2 f W rfl (MK.out.ah hW) (by omega) (by omega)).mono (λe w' (h:_/\W=w')=>(⟨h.1,h.2 ▸ ac.refl _⟩:_/\ac W w'))
 rw[<-HL.out]at Ey;have HLEN:=aa Ey;clear Ey;go_wp2_with fail;go_loopw [18,75] (λgE sL wr=>DG w w3 fmt (VN ⟨b,off,VM⟩) n c L rs gE sL wr) (λ_ sL _=>m2+1-(intOf sL).toNat)
 case atStart=>exact⟨0,0,by omega,rfl,rfl,by simp,rG.out,ac.refl _⟩
 case round=>
  obtain⟨i,a,hi,rfl,rfl,has,hd,hu⟩:=hrel;have HU:=aa hu;have HD:=aa hd;have hM:=HM.out
  by_cases hlt:i<m2
  ·have aG:i<rs.length:=by omega
   obtain⟨b2,off2,rfl,hb2,hc2'⟩:=(HB.out.ah hd.u) (by omega);obtain⟨c0,c1⟩:=hc2' i aG;rw[nO _ _ rs i aG]at has;generalize rs[i]=r at c0 c1 has;obtain⟨p,q⟩:=r;simp only at c0 c1 has;haveI Oy:af b2 wr:=af.of hb2;have z1:(i:Int)<(m2:Int):=by omega
   have z2:¬(i:Int)<0:=by omega
   have hbad:=λ(hh:p<a\/q<p\/(L:Int)<q)=>nJ.out (by rw[has,if_pos hh])
   have fT:=λ(hh:¬(p<a\/q<p\/(L:Int)<q))=>(show DG w w3 fmt (VN ⟨b,off,VM⟩) n c L rs (VD VJ q) (VD VJ ((i:Int)+1)) wr->True from λ_=>trivial)
   have HAS:=aa has;have pA:=aa hbad;clear hc2' hu hd has hbad fT
   by_cases q1:p<a
   ·have hR:=aa (pA.out (.inl q1));have b1:decide (p<a)=true:=decide_eq_true q1;clear pA HAS;go_wp2_with fail
    first|refine aB (by kernel_rfl) (by kernel_rfl) ?_|refine aI (by kernel_rfl) (by kernel_rfl) ?_
    repeat (go_big_quiet_step (first|((go_at_call 29;exact Calls.cK (HLEN.out _ (HU.out.trans uZ))))))
    refine wpQuiet_nil ?_;rintro _ ⟨X,rfl⟩;have dV:=HD.out.ah (uZ:ac wr (under (wr.alloc (VK #[VD VJ p,VD VJ q] 33)) X));have r0:=dV.bl;have r1:=dV.j4;have q0:=dV.f10;have q1:=dV.f11;haveI l1:=dV.l1;have bJ:=aa dV;clear dV;generalize under (wr.alloc (VK #[VD VJ p,VD VJ q] 33)) X=w6 at *;go_wp2;refine bodyPost_ret (v:=VI #[.agg #[VD VJ 0,VF VM 0 0],VD VJ 1]) ?_ rfl ?_
    ·simp[results,Tryz.results31,go_sem,r0,r1]
    exact dw.fX hR.out (bJ.out.set _ _)
   by_cases q2:q<p
   ·have hR:=aa (pA.out (.inr (.inl q2)));have b1:decide (p<a)=false:=decide_eq_false q1;have b2:decide (q<p)=true:=decide_eq_true q2;clear pA HAS;go_wp2_with fail
    first|refine aB (by kernel_rfl) (by kernel_rfl) ?_|refine aI (by kernel_rfl) (by kernel_rfl) ?_
    repeat (go_big_quiet_step (first|((go_at_call 29;exact Calls.cK (HLEN.out _ (HU.out.trans uZ))))))
    refine wpQuiet_nil ?_;rintro _ ⟨X,rfl⟩;have dV:=HD.out.ah (uZ:ac wr (under (wr.alloc (VK #[VD VJ p,VD VJ q] 33)) X));have r0:=dV.bl;have r1:=dV.j4;have q0:=dV.f10;have q1:=dV.f11;haveI l1:=dV.l1;have bJ:=aa dV;clear dV;generalize under (wr.alloc (VK #[VD VJ p,VD VJ q] 33)) X=w6 at *;go_wp2;refine bodyPost_ret (v:=VI #[.agg #[VD VJ 0,VF VM 0 0],VD VJ 1]) ?_ rfl ?_
    ·simp[results,Tryz.results31,go_sem,r0,r1]
    exact dw.fX hR.out (bJ.out.set _ _)
   by_cases q3:(L:Int)<q
   ·have hR:=aa (pA.out (.inr (.inr q3)));have b1:decide (p<a)=false:=decide_eq_false q1;have b2:decide (q<p)=false:=decide_eq_false q2;have b3:decide ((L:Int)<q)=true:=decide_eq_true q3;clear pA HAS;go_wp2_with fail
    first|refine aB (by kernel_rfl) (by kernel_rfl) ?_|refine aI (by kernel_rfl) (by kernel_rfl) ?_
    repeat (go_big_quiet_step (first|((go_at_call 29;exact Calls.cK (HLEN.out _ (HU.out.trans uZ))))))
    refine wpQuiet_nil ?_;rintro _ ⟨X,rfl⟩;have dV:=HD.out.ah (uZ:ac wr (under (wr.alloc (VK #[VD VJ p,VD VJ q] 33)) X));have r0:=dV.bl;have r1:=dV.j4;have q0:=dV.f10;have q1:=dV.f11;haveI l1:=dV.l1;have bJ:=aa dV;clear dV;generalize under (wr.alloc (VK #[VD VJ p,VD VJ q] 33)) X=w6 at *;go_wp2;refine bodyPost_ret (v:=VI #[.agg #[VD VJ 0,VF VM 0 0],VD VJ 1]) ?_ rfl ?_
    ·simp[results,Tryz.results31,go_sem,r0,r1]
    exact dw.fX hR.out (bJ.out.set _ _)
   have MT:=aa (λW (hW:ac wr W)=>(show DG w w3 fmt (VN ⟨b,off,VM⟩) n c L rs (VD VJ q) (VD VJ ((i:Int)+1)) W from⟨i+1,q,by omega,congrArg (VD VJ) (by omega),rfl,by rw[HAS.out,if_neg (by omega)],HD.out.ah hW,HU.out.trans hW⟩));have b1:decide (p<a)=false:=decide_eq_false q1;have b2:decide (q<p)=false:=decide_eq_false q2;have b3:decide ((L:Int)<q)=false:=decide_eq_false q3;clear HAS pA;go_wp2_with fail
   first|refine aB (by kernel_rfl) (by kernel_rfl) ?_|refine aI (by kernel_rfl) (by kernel_rfl) ?_
   repeat (go_big_quiet_step (first|((go_at_call 29;exact Calls.cK (HLEN.out _ (HU.out.trans uZ))))))
   refine wpQuiet_nil ?_;rintro _ ⟨X,rfl⟩;go_wp2;exact⟨MT.out _ uZ,by simp[intOf];omega⟩
  have hkn:i=m2:=by omega
  subst hkn;have lW:St.dM L 0 rs=true:=by rw[has,List.drop_of_length_le (by omega)];rfl
  have rM:=aa (jx.out lW);have rF:=aa lW;have z1:¬(i:Int)<(i:Int):=by omega
  clear has lW hlt nJ jx hi;have hd3:=hd;have Tx:=HU.out;go_wp2_with fail;go_loopw [21,22,23,18,103] (λOK OL BP gE BO wz=>Ke w w3 fmt (VN ⟨b,off,VM⟩) n c au cuts L f rs ts OK OL BP gE BO wz) (λ_ _ _ _ BO _=>i+1-(intOf BO).toNat)
  case atStart=>exact⟨0,0,0,⟨#[]⟩,[],VM,0,by omega,rfl,rfl,rfl,rfl,rfl,by omega,by omega,rF.out,by show 0<=_;omega,by simp,λh=>absurd h (by simp),λ_=>⟨rfl,rfl⟩,by simp,by simp[aP],by simp,HD.out,HU.out⟩
  case round=>
   clear HD HU hd3 Tx hd hu;obtain⟨k,a,x,sB,O,A7,c7,hk2,rfl,rfl,rfl,rfl,rfl,hax,hxL,has,hsz,hen,hI7,hA7,Gw,hOt,hrp,hd,hu⟩:=hrel;have HU:=aa hu;have HD:=aa hd;have HI:=aa hI7;have Fz:=aa hA7;have lL:=aa hrp;have qi:=aa hen
   have C5:cuts.getD x 0<=au.length:=by
    rw[List.getD_eq_getElem?_getD,List.getElem?_eq_getElem (show x<cuts.length by omega),Option.getD_some];exact xD.out _ (List.getElem_mem _)
   have a0:=hd.lN;haveI l0:=hd.l0;clear hI7 hA7 hrp hen
   by_cases hlt:k<i
   ·have aG:k<rs.length:=by omega
    have dW:k<ts.length:=by rw[oH.out];exact hlt
    obtain⟨b2,off2,rfl,hb2,hc2'⟩:=(HB.out.ah hd.u) (by omega);obtain⟨c0,c1⟩:=hc2' k aG;obtain⟨b3,off3,rfl,hb3,hc3'⟩:=(rk.out.ah hd.u) (by omega);obtain⟨At,ct,g0,gI,gn,gc,gA⟩:=hc3' k dW;obtain⟨b5,off5,rfl,bR,hc5'⟩:=(SS.out.ah hu) (by omega);rw[nO _ _ rs k aG]at has;have eF:=St.Am (St.bj fmt) au cuts a sB.1.1 rs ts k aG dW;have wQ:=BI f x O rs ts k aG dW;have fl:=rm.out ts[k] (List.getElem_mem dW);have eg:=St.xP fmt ts[k];generalize rs[k]=r at c0 c1 has eF wQ;generalize ts[k]=t at g0 gI gn eF wQ fl eg;obtain⟨p,q⟩:=r;simp only at c0 c1 has eF wQ
    split at has
    ·cases has
    rename_i hcond
    obtain⟨p',rfl⟩:∃p':Nat,p=p':=⟨p.toNat,by omega⟩;obtain⟨q',rfl⟩:∃q':Nat,q=q':=⟨q.toNat,by omega⟩;have hap:x<=p':=by omega
    have kM:p'<=q':=by omega
    have GL:q'<=L:=by omega
    simp only[Int.toNat_natCast]at eF wQ;have m1:=St.tp xx.out hap (show p'<cuts.length by omega);have m2:=St.tp xx.out kM (show q'<cuts.length by omega);have vB:=hc5' p' (by omega);have tK:=hc5' q' (by omega);have gp:cuts.getD p' 0=cuts[p']:=by rw[List.getD_eq_getElem?_getD,List.getElem?_eq_getElem (show p'<cuts.length by omega),Option.getD_some]
    have gq:cuts.getD q' 0=cuts[q']:=by rw[List.getD_eq_getElem?_getD,List.getElem?_eq_getElem (show q'<cuts.length by omega),Option.getD_some]
    have tq:=xD.out _ (List.getElem_mem (show q'<cuts.length by omega));rw[<-gp]at vB;rw[<-gq]at tK tq;have rq:=aa (λW (hW:ac wr W)=>tT fmt At t.length ct t W rfl gn gc gA (gI.ah hW) (by omega) (by omega));generalize St.bj fmt t=Et at eF eg rq;obtain⟨tl,te⟩:=Et;simp only at eF eg rq;have htl:(⟨tl.toArray⟩:ByteArray).1.1=tl:=by simp
    have rA:(⟨tl.toArray⟩:ByteArray).size=tl.length:=by show tl.toArray.size=_;simp
    generalize(⟨tl.toArray⟩:ByteArray)=tB at rq htl rA;obtain⟨cp,hcpe⟩:∃cp,cp=cuts.getD p' 0:=⟨_,rfl⟩;obtain⟨cq,hcqe⟩:∃cq,cq=cuts.getD q' 0:=⟨_,rfl⟩;rw[<-hcpe]at vB eF m1 m2;have Rr:=aa hcqe;rw[<-hcqe]at tK tq eF m2;haveI Oy:af b2 wr:=af.of hb2;haveI Ra:af b3 wr:=af.of hb3;haveI Rb:af b5 wr:=af.of bR;have z1:(k:Int)<(i:Int):=by omega
    have z2:¬(k:Int)<0:=by omega
    have z3:(p':Int)<(N4:Int):=by omega
    have z4:(q':Int)<(N4:Int):=by omega
    have z5:(a:Int)<=(cp:Int):=by omega
    have z6:(cp:Int)<=(dS.size:Int):=by omega
    have z7:(0:Int)<=(a:Int):=by omega
    have P9:=aa gI;have RO:=aa wQ;have QL:=hd.u;clear hc2' hc3' hc5' hcond gp gq hcpe hcqe gI wQ
    by_cases hte:te=0
    rotate_left 1
    ·have hR:=aa (show RR=((0,[]),te)by rw[rM.out,qi.out,eF,if_pos hte]);have z8:(te==0)=false:=by simpa using hte
     have z9:(te != 0)=true:=by simpa using hte
     clear eF has hte hu hd QL;go_wp2_with fail
     first|refine aB (by kernel_rfl) (by kernel_rfl) ?_|refine aI (by kernel_rfl) (by kernel_rfl) ?_
     repeat (go_big_quiet_step (first|((go_at_call 67;exact Calls.cK (rq.out _ uZ)))))
     refine wpQuiet_nil ?_;rintro _ ⟨X,rfl⟩;have dV:=HD.out.ah (uZ:ac wr (under (wr.alloc (VK #[VD VJ (p':Int),VD VJ (q':Int)] 33)) X));have r0:=dV.bl;have r1:=dV.j4;have q0:=dV.f10;have q1:=dV.f11;haveI l1:=dV.l1;have bJ:=aa dV;clear dV;generalize under (wr.alloc (VK #[VD VJ (p':Int),VD VJ (q':Int)] 33)) X=w6 at *;go_wp2;refine bodyPost_ret (v:=VI #[.agg #[VD VJ 0,VF VM 0 0],VD VJ te]) ?_ rfl ?_
     ·simp[results,Tryz.results31,go_sem,r0,r1]
     exact dw.fX hR.out (bJ.out.set _ _)
    subst hte;have Ta:=aa eF;have HAS:=aa has;have AC:=qb x p' f 0;have AD:=oA x p' f 0;have Ot:=λW (hW:ac wr W)=>nu A2 f.length c2 f x p' W rfl (MK.out.ah (HU.out.trans hW)) (by omega) (by omega) hap (by have:=HL.out;omega)
    have br:=aa Ot;clear eF has hu hd QL Ot;generalize St.bi x p' 0 f=Pq at *;have fZ:=St.iO (O++Pq);have ht1:=qf (O++Pq);rw[iJ]at ht1;have lk:=λ(AP:Option Addr) (cP:Nat) (W:VO) (hW:ac wr W) (lf:AP=VM->Pq.length=0/\cP=0) (hP:aE W AP Pq)=>gU A7 O.length c7 O AP Pq.length cP Pq W rfl rfl Fz.out lf (HI.out.ah hW) hP (by omega) (by rw[iJ];omega)
    obtain⟨Q1,hQ1⟩:∃Q1,Q1=St.bu (O++Pq):=⟨_,rfl⟩;have Jf:=RO.out;rw[<-hQ1]at Jf fZ ht1 lk;rw[List.length_append]at fZ;have eV:=St.iO (Q1++t);have ht2:=qf (Q1++t);rw[iJ]at ht2;rw[List.length_append]at eV;have vA:=λ(AQ:Option Addr) (cQ:Nat) (W:VO) (hW:ac wr W) (NF:AQ=VM->Q1.length=0/\cQ=0) (hQ:aE W AQ Q1)=>gU AQ Q1.length cQ Q1 At t.length ct t W rfl rfl NF (λe=>by have:=gA e;omega) hQ (P9.out.ah hW) (by omega) (by rw[iJ];omega)
    have hfin:∀(A8:Option Addr) (c8:Nat) (W:VO),aE W A8 (St.bu (Q1++t))->(A8=VM->(St.bu (Q1++t)).length=0/\c8=0)->ac wr W->Ke w w3 fmt (VN ⟨b,off,VM⟩) n c au cuts L f rs ts (VE (sB++(dS.extract a cp++tB))) (VD VJ (cq:Int)) (VF A8 (St.bu (Q1++t)).length c8) (VD VJ (q':Int)) (VD VJ ((k:Int)+1)) W:=λA8 c8 W h1 h2 hW=>
     ⟨k+1,cq,q',_,_,A8,c8,by omega,congrArg (VD VJ) (by omega),rfl,rfl,rfl,rfl,by rw[Rr.out];exact Nat.le_refl _,GL,HAS.out,by rw[ByteArray.size_append,ByteArray.size_append,ByteArray.size_extract];omega,by
      rw[qi.out,Ta.out,if_neg (by simp),ByteArray.data_append,Array.toList_append,ByteArray.data_append,Array.toList_append,dU,htl,vb.out],h1,h2,by omega,by omega,by rw[lL.out,Jf],HD.out.ah hW,HU.out.trans hW⟩
    have dq:=aa hfin;have FE:=aa lk;have Rq:=aa vA;clear lk vA hfin fZ ht1 eV ht2 AC AD aG dW Jf hQ1 Gw hOt;generalize St.bu (Q1++t)=Q2 at *;go_wp2_with fail
    first|refine aB (by kernel_rfl) (by kernel_rfl) ?_|refine aI (by kernel_rfl) (by kernel_rfl) ?_
    repeat (go_big_quiet_step (first|((go_at_call 67;exact Calls.cK (rq.out _ uZ)))))
    refine wpQuiet_nil ?_;rintro _ ⟨X,rfl⟩;have GQ:ac wr (under (wr.alloc (VK #[VD VJ (p':Int),VD VJ (q':Int)] 33)) X):=uZ;have d0:(under (wr.alloc (VK #[VD VJ (p':Int),VD VJ (q':Int)] 33)) X).cell? ⟨wr.1.size,0,VM⟩=VN (VD VJ (p':Int)):=by go_simp
    have d1:(under (wr.alloc (VK #[VD VJ (p':Int),VD VJ (q':Int)] 33)) X).cell? ⟨wr.1.size,1,VM⟩=VN (VD VJ (q':Int)):=by go_simp
    have hlb:wr.1.size<(under (wr.alloc (VK #[VD VJ (p':Int),VD VJ (q':Int)] 33)) X).1.size:=Nat.lt_of_lt_of_le (by simp) (lF _ _);generalize under (wr.alloc (VK #[VD VJ (p':Int),VD VJ (q':Int)] 33)) X=w6 at *;obtain⟨bx,cV⟩:∃bx,bx=wr.1.size:=⟨_,rfl⟩;rw[<-cV]at d0 d1 hlb |-;have rO:=aa GQ;have e3:=(GQ.cell (p:=⟨b3,off3+k,VM⟩) hb3).trans g0;have ep:=(GQ.cell (p:=⟨b5,off5+p',VM⟩) bR).trans vB;have eq:=(GQ.cell (p:=⟨b5,off5+q',VM⟩) bR).trans tK;haveI:af bx w6:=af.of hlb;haveI:af b3 w6:=af.of (cd _ _ e3);haveI:af b5 w6:=af.of (cd _ _ ep);clear cV GQ c0 c1 g0 vB tK Oy Ra Rb a0 l0 rq;go_wp2_with fail;refine(br.out _ rO.out).mono ?_;rintro e w7 ⟨vP,rfl,lq,bC⟩;have f0:=(bC.cell (p:=⟨bx,0,VM⟩) hlb).trans d0;have f1:=(bC.cell (p:=⟨bx,1,VM⟩) hlb).trans d1;have g3:=(bC.cell (p:=⟨b3,off3+k,VM⟩) (af.lt inferInstance)).trans e3;obtain⟨AP,cP,rfl,_,_,lf⟩:=aJ lq;haveI:af bx w7:=af.of (cd _ _ f0);haveI:af b3 w7:=af.of (cd _ _ g3);have iN:=aa (rO.out.trans bC);have HP:=aa (aM lq rfl);have uq:AP=VM->Pq.length=0/\cP=0:=λe=>⟨by subst e;rcases lq.2 with⟨e1,e2⟩|⟨g,cap,cur,e1,_⟩<;>simp_all,lf e⟩
    clear bC lq lf d0 d1 e3 ep eq hsz eg fl rA;go_wp2_with fail
    go_region_law (first
     | (refine dk rfl 44 #[VF A7 O.length c7,VF AP Pq.length cP] _ (FE.out AP cP _ (iN.out.trans uZ) uq (HP.out.ah uZ)) ?_ ?_;(· go_simp;done);rintro e w8 ⟨v8,rfl,od,jq⟩;obtain⟨A8,c8,rfl,_,_,hA8⟩:=aJ od;refine⟨_,rfl,?_⟩;have g8:=(jq.cell (p:=⟨b3,off3+k,VM⟩) (af.lt inferInstance)).trans g3;have f8:=(jq.cell (p:=⟨bx,1,VM⟩) (af.lt inferInstance)).trans f1;haveI:af b3 w8:=af.of (cd _ _ g8);haveI:af bx w8:=af.of (cd _ _ f8))
     | (refine dk rfl 44 #[VF A8 Q1.length c8,VF At t.length ct] _ (Rq.out A8 c8 _ (iN.out.trans (ac.trans (ac.trans uZ jq) uZ)) (λe=>⟨by subst e;rcases od.2 with⟨e1,e2⟩|⟨g,cap,cur,e1,_⟩<;>simp_all,hA8 e⟩) ((aM od rfl).ah uZ)) ?_ ?_;(· go_simp;done);rintro e w9 ⟨v9,rfl,jF,kN⟩;obtain⟨A9,c9,rfl,_,_,hA9⟩:=aJ jF;refine⟨_,rfl,?_⟩;have f9:=(kN.cell (p:=⟨bx,1,VM⟩) (af.lt inferInstance)).trans f8;haveI:af bx w9:=af.of (cd _ _ f9)))
    all_goals
     have R5:A9=VM->Q2.length=0/\c9=0:=λe=>⟨by subst e;rcases jF.2 with⟨e1,e2⟩|⟨g,cap,cur,e1,_⟩<;>simp_all,hA9 e⟩
     have HE:=aa (dq.out A9 c9 w9 (aM jF rfl) R5 (iN.out.trans (ac.trans (ac.trans uZ jq) (ac.trans uZ kN))));clear od jF jq kN;go_wp2
     first|exact⟨HE.out,by simp[intOf];omega⟩|(refine⟨?_,by simp[intOf];omega⟩;(repeat apply Exists.intro);exact⟨HE.out,rfl⟩)
   have ye:k=i:=by omega
   subst ye;have lg:=rM.out;rw[qi.out,List.drop_of_length_le (by omega),List.drop_of_length_le (by rw[oH.out];omega)]at lg;simp only[St.mL,Int.toNat_natCast]at lg
   have Jg:St.kt f rs ts=St.bu (O++St.bi x L 0 f):=by
    unfold St.kt;rw[lL.out,List.drop_of_length_le (by omega),List.drop_of_length_le (by rw[oH.out];omega),<-HL.out];rfl
   have GP:(sB++dS.extract a au.length).1.1=sB.1.1++au.drop a:=by
    rw[ByteArray.data_append,Array.toList_append,dU,vb.out];unfold St.be;rw[List.take_of_length_le (by omega)]
   have TP:(sB++dS.extract a au.length).size<=200000000:=by rw[ByteArray.size_append,ByteArray.size_extract];omega
   rw[<-GP]at lg;have Gt:=zE.out (sB++dS.extract a au.length);have z1:¬(k:Int)<(k:Int):=by omega
   have z5:(a:Int)<=(dS.size:Int):=by omega
   have z7:(0:Int)<=(a:Int):=by omega
   have DL:=aa Gt;have AC:=qb x L f 0;have AD:=oA x L f 0;have br:=aa (λW (hW:ac wr W)=>nu A2 f.length c2 f x L W rfl (MK.out.ah (HU.out.trans hW)) (by omega) (by omega) hxL (by have:=HL.out;omega));generalize St.bi x L 0 f=Pq at *;have fZ:=St.iO (O++Pq);have ht1:=qf (O++Pq);rw[iJ]at ht1;rw[<-Jg]at fZ ht1;rw[List.length_append]at fZ;have iC:=λ(AP:Option Addr) (cP:Nat) (W:VO) (hW:ac wr W) (lf:AP=VM->Pq.length=0/\cP=0) (hP:aE W AP Pq)=>gU A7 O.length c7 O AP Pq.length cP Pq W rfl rfl Fz.out lf (HI.out.ah hW) hP (by omega) (by rw[iJ];omega)
   rw[<-Jg]at iC;have cJ:=aa iC;have FN:=aa lg;have mR:=aa (HLEN.out _ HU.out);clear lg Gt GP hax has hlt rM qi iC Jg HB rk rF rm xx xD lL FG;go_wp2_with fail;generalize sB++dS.extract a au.length=sF at *;refine mR.out.mono ?_;rintro e w6 ⟨rfl,dz⟩;have dO:=aa dz;clear dz mR;go_wp2_with fail;refine(br.out _ dO.out).mono ?_;rintro e w7 ⟨vP,rfl,lq,bC⟩;obtain⟨AP,cP,rfl,_,_,lf⟩:=aJ lq;have uq:AP=VM->Pq.length=0/\cP=0:=λe=>⟨by subst e;rcases lq.2 with⟨e1,e2⟩|⟨g,cap,cur,e1,_⟩<;>simp_all,lf e⟩
   have HP:=aa (aM lq rfl);have iN:=aa (dO.out.trans bC);clear lq bC lf dO br;go_wp2_with fail;refine(cJ.out AP cP _ iN.out uq HP.out).mono ?_;rintro e w8 ⟨v8,rfl,od,jq⟩;obtain⟨A8,c8,rfl,_,_⟩:=aC od;have Kv:=aa (aM od rfl);have K0:=HD.out.ah (iN.out.trans jq);have a0:=K0.lN;haveI l0:=K0.l0;have Kt:=aa K0;generalize St.kt f rs ts=P7 at *;clear od jq K0 HP iN cJ HI;go_wp2_with fail;refine(DL.out _ (by omega)).mono ?_;rintro e w9 ⟨v9,v10,rfl,jF,gy,kN⟩;have rr:=FN.out;unfold St.zv at rr;generalize D sF.1.1=R6 at rr jF gy |-;obtain⟨g6,cu6,t6,e6⟩:=R6;simp only at rr jF gy |-;obtain⟨A9,c9,rfl,hc91,hc92⟩:=aC jF;obtain⟨fK,bl,rfl,_,_⟩:=aC gy;have Qf:=aa (aM jF rfl);have MM:=aa (Kv.out.ah kN);have vC:=Kt.out.ah kN;have nJ:=aa rr;have tG:=aa vC;clear jF gy kN rr FN a0 l0 DL Kv Kt
   by_cases sf:e6=0
   rotate_left 1
   ·have hR:=aa (show RR=((0,[]),e6)by rw[nJ.out,if_pos sf]);have z8:(e6==0)=false:=by simpa using sf
    have z9:(e6 != 0)=true:=by simpa using sf
    clear sf;have r0:=vC.bl;have r1:=vC.j4;have q0:=vC.f10;have q1:=vC.f11;haveI l1:=vC.l1;have bJ:=aa vC;clear vC;go_wp2;refine bodyPost_ret (v:=VI #[.agg #[VD VJ 0,VF VM 0 0],VD VJ e6]) ?_ rfl ?_
    ·simp[results,Tryz.results31,go_sem,r0,r1]
    exact dw.fX hR.out (bJ.out.set _ _)
   subst sf;clear vC;go_wp2_with fail;refine(yW A8 P7.length c8 P7 w9 rfl MM.out (by omega) (by omega)).mono ?_;rintro e gu ⟨v10,rfl,gy,hu10⟩;obtain⟨SE,j4,rfl,hc111,hc112⟩:=aC gy;have MJ:=aa (aM gy rfl);have Kw:=aa (Qf.out.ah hu10);have Mx:=aa (tG.out.ah hu10);generalize St.lA P7=P8 at *;clear gy hu10 Qf MM tG;go_wp2_with fail;refine(Hs A9 SE g6.length P8.length c9 j4 g6 P8 gu rfl rfl hc91 hc111 (by unfold maxLen at hc92;omega) (by unfold maxLen at hc112;omega) Kw.out MJ.out).mono ?_;rintro e Rl ⟨rfl,hu11⟩;have mM:=Mx.out.ah hu11;have Iz:=aa mM;clear hu11 Kw MJ Mx;obtain⟨bb,hbb⟩:∃bb,bb=decide (g6=P8):=⟨_,rfl⟩;rw[<-hbb];cases bb
   ·have hR:=aa (show RR=((0,[]),11)by rw[nJ.out,if_neg (by simp),if_pos (of_decide_eq_false hbb.symm)]);clear hbb;have r0:=mM.bl;have r1:=mM.j4;have q0:=mM.f10;have q1:=mM.f11;haveI l1:=mM.l1;have bJ:=aa mM;clear mM;go_wp2;refine bodyPost_ret (v:=VI #[.agg #[VD VJ 0,VF VM 0 0],VD VJ 11]) ?_ rfl ?_
    ·simp[results,Tryz.results31,go_sem,r0,r1]
    exact dw.fX hR.out (bJ.out.set _ _)
   have AE:=aa (show RR=if 65536<(St.bp (St.dj ps j sF.1.1)).length then((0,[]),3)else((fmt,St.dj ps j sF.1.1),0)by rw[nJ.out,if_neg (by simp),if_neg (by simpa using of_decide_eq_true hbb.symm)]);have a0:=mM.lN;have a1:=mM.pI;haveI l0:=mM.l0;clear hbb mM nJ;go_wp2_with fail;refine(u0.out _ Iz.out.u).mono ?_;rintro e kV ⟨rfl,hu12⟩;have gx:=Iz.out.ah hu12;have qh:=aa gx;have hrs:=KD.out sF.1.1;have hsl:=St.aD sF;have hbz:(⟨(St.bp ps).toArray⟩:ByteArray).size=(St.bp ps).length:=by show(St.bp ps).toArray.size=_;simp
   generalize(⟨(St.bp ps).toArray⟩:ByteArray)=F6 at *;clear a0 a1 l0 hu12 Iz
   by_cases hbig:65536<(St.bp (St.dj ps j sF.1.1)).length
   ·have hR:=aa (show RR=((0,[]),3)by rw[AE.out,if_pos hbig]);have Ui:(65536:Int)<(F6.size:Int)-(dS.size:Int)+(sF.size:Int):=by omega
    clear hbig AE;have r0:=gx.bl;have r1:=gx.j4;have q0:=gx.f10;have q1:=gx.f11;haveI l1:=gx.l1;have bJ:=aa gx;clear gx;go_wp2;refine bodyPost_ret (v:=VI #[.agg #[VD VJ 0,VF VM 0 0],VD VJ 3]) ?_ rfl ?_
    ·simp[results,Tryz.results31,go_sem,r0,r1]
    exact dw.fX hR.out (bJ.out.set _ _)
   have hR:=aa (show RR=((fmt,St.dj ps j sF.1.1),0)by rw[AE.out,if_neg hbig]);have Ui:¬(65536:Int)<(F6.size:Int)-(dS.size:Int)+(sF.size:Int):=by omega
   have hn0:0<n:=by omega
   have hone:∀u∈bD ps,u.oneCell'=true:=λu hu=>by
    unfold bD at hu;obtain⟨x,_,hx⟩:=List.mem_flatMap.1 hu;simp only[List.mem_cons,List.not_mem_nil,or_false]at hx;rcases hx with rfl|rfl|rfl<;>rfl
   have hcells:∀(W:VO),ac w W->∀j u,(bD ps)[j]?=VN u->W.cell? ((⟨b,off,VM⟩:Addr).add j)=VN u:=λW hu j u hj=>by
    rw[Addr.add_lit];obtain⟨k,hk,h1⟩:=vl ps j u hj;obtain⟨c0,c1,c2⟩:=MI.out k hk;rcases h1 with⟨rfl,rfl⟩|⟨rfl,rfl⟩|⟨rfl,rfl⟩
    ·exact(hu.cell hb).trans c0
    ·exact(hu.cell hb).trans c1
    exact(hu.cell hb).trans c2
   have HO:=aa hone;have P4:=aa hcells;obtain⟨ip,hi1,hz0,hz1,hz2⟩:=info_parts kO;have b0:=gx.lN;have b1:=gx.pI;haveI l0:=gx.l0;have Qn:=HN.out;clear hbig AE hone hcells hrs gx;go_wp2_with fail;go_cut [35]from 203 (λOM wx=>zy kV fmt n ps OM wx)
   case first=>
    go_region_law (first
     | (refine bW (w:=(kV.alloc (.cells #[.int .i64 0,.slice none 0 0] 25)).drew) rfl (.const (.slice none 0 0)) (.tmp 207) 23 rfl kV.1.size 64 ip (.agg #[.bool false,.string ⟨#[]⟩,.string ⟨#[]⟩]) 3 40 Tryz.underlying23 hi1 hz0 hz1 hz2 rfl (by decide) (.slice none 0 0) 0 _ rfl (World.ownsRow_nil _ _ _ _) ⟨b,off,none⟩ n c (bD ps) rfl (by rw[kq,Qn]) (P4.out _ (qh.out.u.trans uZ)) HO.out (by unfold maxLen;omega) (by omega) (by simp) ?_;intro v13 DF sq wO _;rw[Nat.zero_add,List.nil_append]at sq;obtain⟨g13,k13,rfl,hg13,hgl13,hoo13⟩:=qP sq hn0;have wU:=(ac.refl _).grown wO (λk hk=>by simp[Value.ownBlock]at hk);have ux:=qh.out.ah (ac.trans (uZ:ac kV (kV.alloc (.cells #[.int .i64 0,.slice none 0 0] 25)).drew) wU);have e0:=ux.lN;have e1:=ux.pI;haveI k0:=ux.l0;have AI:=(wU.below.block kV.1.size (by simp)).trans (heap_alloc_new kV (.cells #[.int .i64 0,.slice none 0 0] 25));have d0:DF.cell? ⟨kV.1.size,0,none⟩=some (.int .i64 0):=ai AI 0;have d1:DF.cell? ⟨kV.1.size,1,none⟩=some (.slice none 0 0):=ai AI 1;have f0:DF.frozen? ⟨kV.1.size,0,none⟩=false:=bg AI 0;have f1:DF.frozen? ⟨kV.1.size,1,none⟩=false:=bg AI 1;haveI k1:af kV.1.size DF:=af.of (ae AI))
     | (refine bW (w:=kV.drew) rfl (.const (.slice none 0 0)) (.tmp 207) 23 rfl kV.1.size 64 ip (.agg #[.bool false,.string ⟨#[]⟩,.string ⟨#[]⟩]) 3 40 Tryz.underlying23 hi1 hz0 hz1 hz2 rfl (by decide) (.slice none 0 0) 0 _ rfl (World.ownsRow_nil _ _ _ _) ⟨b,off,none⟩ n c (bD ps) rfl (by rw[kq,Qn]) (P4.out _ (qh.out.u.trans uZ)) HO.out (by unfold maxLen;omega) (by omega) (by simp) ?_;intro v13 DF sq wO _;rw[Nat.zero_add,List.nil_append]at sq;obtain⟨g13,k13,rfl,hg13,hgl13,hoo13⟩:=qP sq hn0;have wU:=(ac.refl _).grown wO (λk hk=>by simp[Value.ownBlock]at hk);have ux:=qh.out.ah (ac.trans (uZ:ac kV kV.drew) wU);have e0:=ux.lN;have e1:=ux.pI;haveI k0:=ux.l0))
    all_goals
     go_wp2_with fail;go_meet
     first
      | exact Af hoo13 (Nat.le_refl _) (ac.trans uZ wU) hn0
      | exact Ce hoo13 (Nat.le_refl _) (ac.trans uZ wU) hn0
   case rest=>
    obtain⟨gd,g,cap,cur,rfl,hgd,sk,hne,hgdh,hgh,hcs,hncap,hcap,hct,tO⟩:=hcut;have Sp:=nv ps j sF.1.1;have hp:=tJ (s:=sF.1.1) HN.out (by omega:j<n) hgh hcs hncap hcap hct;rw[aX]at hp;have j7:=tO.setCell (p:=⟨g,j*3+2,VM⟩) sk (VE sF);have tM:=(heap_setCell_other wc ⟨g,j*3+2,VM⟩ gd (VE sF) hne).trans hgdh;have hds:=qh.out.ah j7;have d0:wc.cell? ⟨gd,0,VM⟩=VN (VD VJ fmt):=ai hgdh 0;have d1:wc.cell? ⟨gd,1,VM⟩=VN (VF (VN ⟨g,0,VM⟩) n cap):=ai hgdh 1;have e2:wc.frozen? ⟨g,j*3+2,VM⟩=false:=bg hgh (j*3+2);obtain⟨v2,hv2⟩:∃v2,wc.cell? ⟨g,j*3+2,VM⟩=VN v2:=⟨_,(ai hgh (j*3+2)).trans (Array.getElem?_eq_getElem (by omega))⟩;have s0:(wc.setCell ⟨g,j*3+2,VM⟩ (VE sF)).cell? ⟨gd,0,VM⟩=VN (VD VJ fmt):=ai tM 0;have s1:(wc.setCell ⟨g,j*3+2,VM⟩ (VE sF)).cell? ⟨gd,1,VM⟩=VN (VF (VN ⟨g,0,VM⟩) n cap):=ai tM 1;haveI m0:af gd wc:=af.of (ae hgdh);haveI m1:af g wc:=af.of (ae hgh);have r0:=hds.bl;have r1:=hds.j4;have q0:=hds.f10;have q1:=hds.f11;have FH:=aa hds;have KA:=aa hp;have hE:=aa (λu v=>iP KA.out FH.out.b1 u v);clear tO j7 tM hp hgdh hgh hct b0 b1 l0;haveI l1:af (w.1.size+1) (wc.setCell ⟨g,j*3+2,VM⟩ (VE sF)):=FH.out.l1;haveI m2:af gd (wc.setCell ⟨g,j*3+2,VM⟩ (VE sF)):=af.of (cd _ _ s0);go_wp2;refine bodyPost_ret (v:=VI #[.agg #[VD VJ fmt,VF (VN ⟨g,0,VM⟩) n cap],VD VJ 0]) ?_ rfl ?_
    ·simp[results,Tryz.results31,go_sem,r0,r1]
    rw[hR.out];exact⟨VN ⟨g,0,VM⟩,cap,by simp only;rw[Sp,HN.out],hE.out _ _,by simp only;omega,hcap,FH.out.set _ _⟩
