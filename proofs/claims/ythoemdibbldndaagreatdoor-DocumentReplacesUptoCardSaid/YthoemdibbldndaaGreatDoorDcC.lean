/- For document.Replace: its own blocks in memory, the cases of St.replD, and the errors. -/
import Derived.Test.YthoemdibbldndaaGreatDoorDcB
import Derived.Deep.CutRange
set_option linter.all false
set_option maxHeartbeats 0
set_option maxRecDepth 20000
open Go.Value renaming int->VD,string->VE,slice->VF,pointer->VH,tuple->VI
open Go.IntKind renaming i64->VJ
open Go.Obj renaming cells->VK
open Option renaming none->VM,some->VN
open Go renaming World->VO
namespace Go.Proofs.YthoemdibbldndaaGreatDoor
open Go.RowKit
section
namespace St
variable {D:List UInt8->gM} {S:List UInt8->List Pt × Nat × Int} {E:List It->List UInt8 × Int} {fmt:Int} {ps:List Pt} {k:Int} {rs:List (Int × Int)} {ts:List (List It)}
theorem Dv(h:eZ S ps≠0):eH D S E fmt ps k rs ts=((0,[]),eZ S ps):=by unfold eH;rw[if_pos h]
theorem Dt(h0:eZ S ps=0)(h:(bL D ps k).2.2.2≠0):eH D S E fmt ps k rs ts=((0,[]),(bL D ps k).2.2.2):=by
 unfold eH;rw[if_neg (by simpa using h0),if_pos h]
theorem Ds(h0:eZ S ps=0)(h1:(bL D ps k).2.2.2=0)(h:ts.length≠rs.length\/dM (aR (bL D ps k).1) 0 rs=false):eH D S E fmt ps k rs ts=((0,[]),1):=by
 unfold eH;rw[if_neg (by simpa using h0),if_neg (by simpa using h1),if_pos h]
theorem Du(h0:eZ S ps=0)(h1:(bL D ps k).2.2.2=0)(h:ts.length=rs.length)(h':dM (aR (bL D ps k).1) 0 rs=true):eH D S E fmt ps k rs ts=match mL E (io ps k).2.2 (bL D ps k).2.1 0 [] rs ts with
  | .error e=>((0,[]),e)
  | .ok (s,at')=>zv D fmt ps k.toNat (lA (kt (bL D ps k).1 rs ts)) (s++(io ps k).2.2.drop at'):=by
 unfold eH;rw[if_neg (by simpa using h0),if_neg (by simpa using h1),if_neg (by simp[h,h'])];split<;>rename_i e<;>rw[e]
theorem ta(h:(bL D ps k).2.2.2=0):∃(j:Nat) (hj:j<ps.length),k=j/\ps[j].1=true/\bL D ps k=D ps[j].2.2/\io ps k=ps[j]:=by
 by_cases hk:0<=k
 ·obtain⟨j,rfl⟩:∃j:Nat,k=j:=⟨k.toNat,by omega⟩;have hp:io ps (j:Int)=(ps[j]?).getD (false,[],[]):=by unfold io;rw[if_pos hk];simp
  by_cases hj:j<ps.length
  ·rw[List.getElem?_eq_getElem hj,Option.getD_some]at hp;unfold bL at h
   split at h
   ·rename_i hu
    refine⟨j,hj,rfl,by rw[<-hp];exact hu,?_,hp⟩;unfold bL;rw[if_pos hu,hp]
   cases h
  rw[List.getElem?_eq_none (by omega)]at hp;unfold bL at h;rw[hp]at h;cases h
 have hp:io ps k=(false,[],[]):=by unfold io;rw[if_neg hk]
 unfold bL at h;rw[hp]at h;cases h
theorem Am(E:List It->List UInt8 × Int)(au:List UInt8)(cuts:List Nat)(a:Nat)(s:List UInt8)(rs:List (Int × Int))(ts:List (List It))(k:Nat)(h:k<rs.length)(h':k<ts.length) :
  mL E au cuts a s (rs.drop k) (ts.drop k)=if(E ts[k]).2≠0 then .error (E ts[k]).2 else mL E au cuts (cuts.getD rs[k].2.toNat 0) (s++(be au a (cuts.getD rs[k].1.toNat 0)++(E ts[k]).1)) (rs.drop (k+1)) (ts.drop (k+1)):=by
 rw[List.drop_eq_getElem_cons h,List.drop_eq_getElem_cons h',mL];rfl
theorem tp{c:List Nat}(h:c.Pairwise (·<=·)){i j:Nat}(hij:i<=j)(hj:j<c.length):c.getD i 0<=c.getD j 0:=by
 rw[List.getD_eq_getElem?_getD,List.getD_eq_getElem?_getD,List.getElem?_eq_getElem hj,List.getElem?_eq_getElem (show i<c.length by omega),Option.getD_some,Option.getD_some];rcases Nat.lt_or_eq_of_le hij with h1|rfl
 ·exact List.pairwise_iff_getElem.1 h i j (by omega) hj h1
 exact Nat.le_refl _
end St
structure Hd (w W:VO) (fmt:Int) (A:Option Addr) (n c:Nat):Prop where
 u:ac w W
 b0:W.1[w.1.size]?=VN (VK #[VD VJ fmt,VF A n c] 25)
 b1:W.1[w.1.size+1]?=VN (VK #[VD VJ 0,VF VM 0 0] 25)
 b2:W.1[w.1.size+2]?=VN (VK #[VD VJ 0,VF VM 0 0] 25)
theorem Hd.start(w:VO)(fmt:Int)(A:Option Addr)(n c:Nat):Hd w (((w.alloc (VK #[VD VJ fmt,VF A n c] 25)).alloc (VK #[VD VJ 0,VF VM 0 0] 25)).alloc (VK #[VD VJ 0,VF VM 0 0] 25)) fmt A n c:=by
 have e1:=heap_alloc_new w (VK #[VD VJ fmt,VF A n c] 25);have e2:=heap_alloc_new (w.alloc (VK #[VD VJ fmt,VF A n c] 25)) (VK #[VD VJ 0,VF VM 0 0] 25);have e3:=heap_alloc_new ((w.alloc (VK #[VD VJ fmt,VF A n c] 25)).alloc (VK #[VD VJ 0,VF VM 0 0] 25)) (VK #[VD VJ 0,VF VM 0 0] 25);have u1:=((ac.refl (w.alloc (VK #[VD VJ fmt,VF A n c] 25))).alloc (VK #[VD VJ 0,VF VM 0 0] 25)).alloc (VK #[VD VJ 0,VF VM 0 0] 25);have u2:=(ac.refl ((w.alloc (VK #[VD VJ fmt,VF A n c] 25)).alloc (VK #[VD VJ 0,VF VM 0 0] 25))).alloc (VK #[VD VJ 0,VF VM 0 0] 25);refine⟨uZ,(u1.below.block w.1.size (by simp)).trans e1,?_,?_⟩
 ·have hs:(w.alloc (VK #[VD VJ fmt,VF A n c] 25)).1.size=w.1.size+1:=by simp
  rw[hs]at e2;exact(u2.below.block (w.1.size+1) (by simp)).trans e2
 have hs:((w.alloc (VK #[VD VJ fmt,VF A n c] 25)).alloc (VK #[VD VJ 0,VF VM 0 0] 25)).1.size=w.1.size+2:=by simp
 rw[hs]at e3;exact e3
section
variable {w W W':VO} {fmt:Int} {A:Option Addr} {n c:Nat}
theorem Hd.ah(h:Hd w W fmt A n c)(u:ac W W'):Hd w W' fmt A n c:=
 ⟨h.u.trans u,(u.below.block _ (ae h.b0)).trans h.b0,(u.below.block _ (ae h.b1)).trans h.b1,(u.below.block _ (ae h.b2)).trans h.b2⟩
theorem Hd.lN(h:Hd w W fmt A n c):W.cell? ⟨w.1.size,0,VM⟩=VN (VD VJ fmt):=ai h.b0 0
theorem Hd.pI(h:Hd w W fmt A n c):W.cell? ⟨w.1.size,1,VM⟩=VN (VF A n c):=ai h.b0 1
theorem Hd.bl(h:Hd w W fmt A n c):W.cell? ⟨w.1.size+1,0,VM⟩=VN (VD VJ 0):=ai h.b1 0
theorem Hd.j4(h:Hd w W fmt A n c):W.cell? ⟨w.1.size+1,1,VM⟩=VN (VF VM 0 0):=ai h.b1 1
theorem Hd.vi(h:Hd w W fmt A n c):W.cell? ⟨w.1.size+2,0,VM⟩=VN (VD VJ 0):=ai h.b2 0
theorem Hd.vj(h:Hd w W fmt A n c):W.cell? ⟨w.1.size+2,1,VM⟩=VN (VF VM 0 0):=ai h.b2 1
theorem Hd.f10(h:Hd w W fmt A n c):W.frozen? ⟨w.1.size+1,0,VM⟩=false:=bg h.b1 0
theorem Hd.f11(h:Hd w W fmt A n c):W.frozen? ⟨w.1.size+1,1,VM⟩=false:=bg h.b1 1
theorem Hd.l0(h:Hd w W fmt A n c):af w.1.size W:=af.of (ae h.b0)
theorem Hd.l1(h:Hd w W fmt A n c):af (w.1.size+1) W:=af.of (ae h.b1)
theorem Hd.l2(h:Hd w W fmt A n c):af (w.1.size+2) W:=af.of (ae h.b2)
theorem Hd.set(h:Hd w W fmt A n c)(u v:Value):ac w ((W.setCell ⟨w.1.size+1,0,VM⟩ u).setCell ⟨w.1.size+1,1,VM⟩ v):=
 ac.mk ((h.u.below.setCell (p:=⟨w.1.size+1,0,VM⟩) (by simp) u).setCell (p:=⟨w.1.size+1,1,VM⟩) (by simp) v)
end
def dw(R:(Int × List St.Pt) × Int)(w:VO)(e:Ending)(w':VO):Prop:=
 ∃A c,e=.returned (VI #[.agg #[VD VJ R.1.1,VF A R.1.2.length c],VD VJ R.2])/\aY w' A R.1.2/\R.1.2.length<=c/\c<=9223372036854775807/\ac w w'
theorem dw.fX{R:(Int × List St.Pt) × Int}{er:Int}{w w':VO}(h:R=((0,[]),er))(u:ac w w'):dw R w (.returned (VI #[.agg #[VD VJ 0,VF VM 0 0],VD VJ er])) w':=by
 subst h;exact⟨VM,0,rfl,λh=>absurd h (by simp),by simp,by omega,u⟩
end
section
section
variable {fmt:Int} {D:List UInt8->St.gM} {S:List UInt8->List St.Pt × Nat × Int}
theorem D8(A B C:Option Addr)(n c m d m2 e0:Nat)(ps:List St.Pt)(k:Int)(rs:List (Int × Int))(ts:List (List St.It))(w:VO)(hF:lR w fmt D S)(hn:ps.length=n)(hnc:n<=c)(cN:c<=9223372036854775807)(hm:rs.length=m)(hm2:ts.length=m2)(h:aY w A ps)(hB:dL w B rs)(hl:n<=1000000)(hr:(St.bp ps).length<=1000000)(fj:m<=20)
  (hbad:St.eZ S ps≠0\/(St.bL D ps k).2.2.2≠0\/ts.length≠rs.length\/St.dM (St.aR (St.bL D ps k).1) 0 rs=false) :
  Calls Tryz.prog 16 #[.agg #[VD VJ fmt,VF A n c],VD VJ k,VF B m d,VF C m2 e0] w (dw (St.eH D S (St.bj fmt) fmt ps k rs ts) w):=by
 have HV:=aa (λW (hW:ac w W)=>vq A n c ps W (hF.ah hW) hn hnc cN (h.ah hW) (by omega) (by omega));have HC:=aa (λW (hW:ac w W)=>xL A n c ps k W (hF.ah hW) hn (h.ah hW) (by omega) (by omega));have HA:=aa (λW (hW:ac w W) (L:Nat)=>Ah B m d L rs W hm (hB.ah hW) (by omega))
 by_cases hv:St.eZ S ps=0
 ·rw[hv]at HV
  by_cases hc:(St.bL D ps k).2.2.2=0
  ·have hR:=aa (St.Ds (E:=St.bj fmt) (fmt:=fmt) (k:=k) hv hc (by simpa[hv,hc]using hbad));obtain⟨j,hj,rfl,hu1,j6,hpt⟩:=St.ta hc;rw[j6]at hc HC hbad;have hok:=hF.ok _ hc;have La:=pZ ps j hj;have htot:=hok.aP;have hle:=hok.le;have hlen:=hok.len;generalize D ps[j].2.2=R at hc HC hbad hok htot hle hlen;generalize St.eH D S (St.bj fmt) fmt ps (j:Int) rs ts=RR at *;obtain⟨f,cuts,tt,er⟩:=R;simp only at hc hbad htot hle hlen;subst hc;clear hok j6 hpt hu1 h hB hF;go_enter Tryz.func16,Tryz.ntmps16;go_wp2_with fail;refine(HV.out _ uZ).mono ?_;rintro e w1 ⟨rfl,hu1⟩;have hd1:=(Hd.start w fmt A n c).ah hu1;have a0:=hd1.lN;have a1:=hd1.pI;haveI l0:=hd1.l0;haveI l1:=hd1.l1;haveI l2:=hd1.l2;have oF:=aa hd1;clear hd1 hu1;go_wp2_with fail;refine(HC.out _ oF.out.u).mono ?_;rintro e w2 ⟨A2,c2,rfl,hI,hc2,hc3,hu2⟩;have HI:=aa hI;have hd2:=oF.out.ah hu2;have z0:=hd2.vi;have z1:=hd2.vj;have r0:=hd2.bl;have r1:=hd2.j4;have q0:=hd2.f10;have q1:=hd2.f11;haveI l0:=hd2.l0;haveI l1:=hd2.l1;haveI l2:=hd2.l2;have bJ:=aa hd2;clear hd2 hu2 a0 a1 hI
   by_cases hmm:m2=m
   ·subst hmm;have hf:=aa (show St.dM (St.aR f) 0 rs=false by
     rcases hbad with hb|hb|hb|hb
     ·exact absurd hv hb
     ·exact absurd rfl hb
     ·omega
     exact hb)
    clear hbad;go_wp2_with fail;refine(kk A2 f.length c2 f w2 rfl HI.out (by omega) (by omega)).mono ?_;rintro e w3 ⟨rfl,hu3⟩;have rG:=aa (bJ.out.ah hu3);clear hu3;go_wp2_with fail;refine(HA.out _ rG.out.u _).mono ?_;rintro e w4 ⟨rfl,aU⟩;have lm:=rG.out.ah aU;have z0:=lm.vi;have z1:=lm.vj;have r0:=lm.bl;have r1:=lm.j4;have q0:=lm.f10;have q1:=lm.f11;haveI l0:=lm.l0;haveI l1:=lm.l1;haveI l2:=lm.l2;have Ks:=aa lm;clear lm aU;rw[hf.out];go_wp2;refine bodyPost_ret (v:=VI #[.agg #[VD VJ 0,VF VM 0 0],VD VJ 1]) ?_ rfl ?_
    ·simp[results,Tryz.results16,go_sem,r0,r1]
    exact dw.fX hR.out (Ks.out.set _ _)
   have z2:((m2:Int) != (m:Int))=true:=by simp;omega
   clear hbad;go_wp2;refine bodyPost_ret (v:=VI #[.agg #[VD VJ 0,VF VM 0 0],VD VJ 1]) ?_ rfl ?_
   ·simp[results,Tryz.results16,go_sem,r0,r1]
   exact dw.fX hR.out (bJ.out.set _ _)
  have hR:=aa (St.Dt (E:=St.bj fmt) (fmt:=fmt) (rs:=rs) (ts:=ts) hv hc);generalize St.bL D ps k=R at *;generalize St.eH D S (St.bj fmt) fmt ps k rs ts=RR at *;obtain⟨f,cuts,tt,er⟩:=R;simp only at hc hR;have z5:(er==0)=false:=by simpa using hc
  have z6:(er != 0)=true:=by simpa using hc
  clear hbad hF h hB hc;go_enter Tryz.func16,Tryz.ntmps16;go_wp2_with fail;refine(HV.out _ uZ).mono ?_;rintro e w1 ⟨rfl,hu1⟩;have hd1:=(Hd.start w fmt A n c).ah hu1;have a0:=hd1.lN;have a1:=hd1.pI;haveI l0:=hd1.l0;haveI l1:=hd1.l1;haveI l2:=hd1.l2;have oF:=aa hd1;clear hd1 hu1;go_wp2_with fail;refine(HC.out _ oF.out.u).mono ?_;rintro e w2 ⟨A2,c2,rfl,hI,hc2,hc3,hu2⟩;have hd2:=oF.out.ah hu2;have z0:=hd2.vi;have z1:=hd2.vj;have r0:=hd2.bl;have r1:=hd2.j4;have q0:=hd2.f10;have q1:=hd2.f11;haveI l0:=hd2.l0;haveI l1:=hd2.l1;haveI l2:=hd2.l2;have bJ:=aa hd2;clear hd2 hu2 a0 a1 hI;simp only;go_wp2;refine bodyPost_ret (v:=VI #[.agg #[VD VJ 0,VF VM 0 0],VD VJ er]) ?_ rfl ?_
  ·simp[results,Tryz.results16,go_sem,r0,r1]
  exact dw.fX hR.out (bJ.out.set _ _)
 have hR:=aa (St.Dv (D:=D) (E:=St.bj fmt) (fmt:=fmt) (k:=k) (rs:=rs) (ts:=ts) hv);generalize St.eH D S (St.bj fmt) fmt ps k rs ts=RR at *;generalize St.eZ S ps=vv at *;have z5:(vv==0)=false:=by simpa using hv
 have z6:(vv != 0)=true:=by simpa using hv
 clear hbad hF h hB hv;go_enter Tryz.func16,Tryz.ntmps16;go_wp2_with fail;refine(HV.out _ uZ).mono ?_;rintro e w1 ⟨rfl,hu1⟩;have hd2:=(Hd.start w fmt A n c).ah hu1;have z0:=hd2.vi;have z1:=hd2.vj;have r0:=hd2.bl;have r1:=hd2.j4;have q0:=hd2.f10;have q1:=hd2.f11;haveI l0:=hd2.l0;haveI l1:=hd2.l1;haveI l2:=hd2.l2;have bJ:=aa hd2;clear hd2 hu1;go_wp2;refine bodyPost_ret (v:=VI #[.agg #[VD VJ 0,VF VM 0 0],VD VJ vv]) ?_ rfl ?_
 ·simp[results,Tryz.results16,go_sem,r0,r1]
 exact dw.fX hR.out (bJ.out.set _ _)
end
end
section
section
variable {fmt:Int} {D:List UInt8->St.gM} {S:List UInt8->List St.Pt × Nat × Int}
def F1(w w5:VO)(A:Option Addr)(n c:Nat)(fmt:Int)(au:List UInt8)(cuts:List Nat)(L:Nat)(rs:List (Int × Int))(ts:List (List St.It))(OJ mJ H7:Value)(wr:VO):Prop:=
 ∃(i a x:Nat) (sB:ByteArray),i<=rs.length/\H7=VD VJ i/\mJ=VD VJ a/\OJ=VE sB/\a<=cuts.getD x 0/\x<=L/\St.dM L x (rs.drop i)=true/\sB.size<=2000000*i /\
  St.mL (St.bj fmt) au cuts 0 [] rs ts=St.mL (St.bj fmt) au cuts a sB.1.1 (rs.drop i) (ts.drop i)/\Hd w wr fmt A n c/\ac w5 wr
def wm(w w9:VO)(fmt:Int)(A:Option Addr)(n c:Nat)(ps:List St.Pt)(BP:Value)(W:VO):Prop:=
 ∃(gd g cap:Nat) (cur:Array Value),BP=VH (VN ⟨gd,0,VM⟩)/\w9.1.size<=gd/\w9.1.size<=g/\gd≠g/\W.1[gd]?=VN (VK #[VD VJ fmt,VF (VN ⟨g,0,VM⟩) n cap] 25) /\
  W.1[g]?=VN (VK cur 64)/\cur.size=cap*3/\n<=cap/\cap<=9223372036854775807/\cur.toList.take (n*3)=bD ps/\Hd w W fmt A n c/\ac w9 W
theorem yT(ps:List St.Pt)(k:Nat)(s:List UInt8)(h:k<ps.length):bD (St.dj ps k s)=(bD ps).set (k*3+2) (VE ⟨s.toArray⟩):=by
 induction ps generalizing k with
 | nil=>simp at h
 | cons x ps ih=>
  match k,h with
  | 0,_=>rfl
  | k+1,h=>
   have e:(k+1)*3+2=(k*3+2)+3:=by omega
   rw[e];have:=ih k (by simpa using h)
   show([Value.bool x.1,VE ⟨x.2.1.toArray⟩,VE ⟨x.2.2.toArray⟩]++bD (St.dj ps k s))=_
   rw[this];rfl
theorem qP{w:VO}{B e size n:Nat}{v:Value}{xs:List Value}(h:w.ownsRow B e size v n xs)(h0:0<n):∃g cap,v=VF (VN ⟨g,0,VM⟩) n cap/\B<=g/\g<w.1.size/\w.ownsRow B e size (VF (VN ⟨g,0,VM⟩) n cap) n xs:=by
 have h':=h;rcases h.2 with⟨_,e2⟩|⟨g,cap,cur,rfl,hb,hg,_⟩
 ·omega
 exact⟨g,cap,rfl,hb,ae hg,h'⟩
theorem DY{w w9 gu:VO}{A:Option Addr}{n c B g cap:Nat}{ps:List St.Pt}(hd:Hd w w9 fmt A n c)(ho:gu.ownsRow B 64 3 (VF (VN ⟨g,0,VM⟩) n cap) n (bD ps))(hB:w9.1.size<=B)(u:ac w9 gu)(h0:0<n) :
  wm w w9 fmt A n c ps (VH (VN ⟨gu.1.size,0,VM⟩)) (gu.alloc (VK #[VD VJ fmt,VF (VN ⟨g,0,VM⟩) n cap] 25)):=by
 rcases ho.2 with⟨_,e2⟩|⟨g',cap',cur,he,hb,hg,h1,h2,h3,h4⟩
 ·omega
 cases he;have hlt:=ae hg;have u2:=(ac.refl gu).alloc (VK #[VD VJ fmt,VF (VN ⟨g,0,VM⟩) n cap] 25);exact⟨_,g,cap,cur,rfl,u.size,by omega,by omega,heap_alloc_new _ _,(u2.below.block g hlt).trans hg,h3,h1,by unfold maxLen at h2;omega,h4,hd.ah (u.trans u2),u.trans u2⟩
theorem Cd{w w9 gu:VO}{A:Option Addr}{n c B g cap:Nat}{ps:List St.Pt}(hd:Hd w w9 fmt A n c)(ho:gu.ownsRow B 64 3 (VF (VN ⟨g,0,VM⟩) n cap) n (bD ps))(hB:w9.1.size+1<=B)(u:ac (w9.alloc (VK #[VD VJ 0,VF VM 0 0] 25)) gu)(h0:0<n) :
  wm w w9 fmt A n c ps (VH (VN ⟨w9.1.size,0,VM⟩)) ((gu.setCell ⟨w9.1.size,0,VM⟩ (VD VJ fmt)).setCell ⟨w9.1.size,1,VM⟩ (VF (VN ⟨g,0,VM⟩) n cap)):=by
 rcases ho.2 with⟨_,e2⟩|⟨g',cap',cur,he,hb,hg,h1,h2,h3,h4⟩
 ·omega
 cases he;have hgd:=(u.below.block w9.1.size (by simp)).trans (heap_alloc_new w9 (VK #[VD VJ 0,VF VM 0 0] 25));have e1:=heap_setCell_same _ _ 0 _ _ (VD VJ fmt) hgd;have e2:=heap_setCell_same _ _ 1 _ _ (VF (VN ⟨g,0,VM⟩) n cap) e1;have u9:ac w9 gu:=((ac.refl w9).alloc _).trans u;have u2:ac w9 ((gu.setCell ⟨w9.1.size,0,VM⟩ (VD VJ fmt)).setCell ⟨w9.1.size,1,VM⟩ (VF (VN ⟨g,0,VM⟩) n cap)):=(u9.setCell (p:=⟨w9.1.size,0,VM⟩) (Nat.le_refl _) _).setCell (p:=⟨w9.1.size,1,VM⟩) (Nat.le_refl _) _;refine⟨_,g,cap,cur,rfl,Nat.le_refl _,by omega,by omega,e2,?_,h3,h1,by unfold maxLen at h2;omega,h4,hd.ah u2,u2⟩;rw[heap_setCell_other _ _ _ _ (show g≠(⟨w9.1.size,1,VM⟩:Addr).block by simp only;omega),heap_setCell_other _ _ _ _ (show g≠(⟨w9.1.size,0,VM⟩:Addr).block by simp only;omega)];exact hg
theorem JO(ps:List St.Pt)(k:Nat)(s:List UInt8):(St.bp (St.dj ps k s)).length<=(St.bp ps).length+s.length:=by
 induction ps generalizing k with
 | nil=>simp[St.dj,St.bp]
 | cons x ps ih=>
  match k with
  | 0=>simp[St.dj,St.bp];omega
  | k+1=>
   have:=ih k
   have e1:St.bp (St.dj (x :: ps) (k+1) s)=x.2.2++St.bp (St.dj ps k s):=rfl;have e2:St.bp (x :: ps)=x.2.2++St.bp ps:=rfl;rw[e1,e2,List.length_append,List.length_append];omega
theorem nv(ps:List St.Pt)(k:Nat)(s:List UInt8):(St.dj ps k s).length=ps.length:=by unfold St.dj;simp
theorem tJ{W:VO}{g cap n:Nat}{cur:Array Value}{ps:List St.Pt}{k:Nat}{s:List UInt8}(hn:ps.length=n)(hk:k<n)(hg:W.1[g]?=VN (VK cur 64))(hs:cur.size=cap*3)(h1:n<=cap)(h2:cap<=9223372036854775807)(h3:cur.toList.take (n*3)=bD ps) :
  aY (W.setCell ⟨g,k*3+2,VM⟩ (VE ⟨s.toArray⟩)) (VN ⟨g,0,VM⟩) (St.dj ps k s):=by
 have e1:=heap_setCell_same _ _ (k*3+2) _ _ (VE ⟨s.toArray⟩) hg;refine o6 (B:=g) (n:=n) (c:=cap) ⟨by rw[kq,nv,hn],.inr ⟨g,cap,_,rfl,Nat.le_refl _,e1,h1,by unfold maxLen;omega,by simpa using hs,?_⟩⟩ (by rw[nv,hn]);rw[yT _ _ _ (by omega),<-h3,Array.toList_setIfInBounds,List.take_set]
end
end
section
section
variable {fmt:Int} {D:List UInt8->St.gM} {S:List UInt8->List St.Pt × Nat × Int}
theorem Gd(A B C:Option Addr)(n c m d e0 j:Nat)(ps:List St.Pt)(rs:List (Int × Int))(ts:List (List St.It))(w:VO)(hF:lR w fmt D S)(hn:ps.length=n)(hnc:n<=c)(cN:c<=9223372036854775807)(hm:rs.length=m)(hm2:ts.length=m)(h:aY w A ps)(hB:dL w B rs)(hC:fS w C ts)(hl:n<=1000000)(hr:(St.bp ps).length<=1000000)(fj:m<=20)
  (hts:∀t∈ts,t.length<=1100/\aP t<=20000000) (hen:∀t∈ts,(St.bj fmt t).1.length<=1000000) (hj:j<ps.length) (hv:St.eZ S ps=0) (hc:(St.bL D ps j).2.2.2=0) (j6:St.bL D ps j=D ps[j].2.2) (hpt:St.io ps j=ps[j]) (lW:St.dM (St.aR (St.bL D ps j).1) 0 rs=true) :
  Calls Tryz.prog 16 #[.agg #[VD VJ fmt,VF A n c],VD VJ j,VF B m d,VF C m e0] w (dw (St.eH D S (St.bj fmt) fmt ps j rs ts) w):=by
 have HV:=aa (λW (hW:ac w W)=>vq A n c ps W (hF.ah hW) hn hnc cN (h.ah hW) (by omega) (by omega));have HC:=aa (λW (hW:ac w W)=>xL A n c ps j W (hF.ah hW) hn (h.ah hW) (by omega) (by omega));have HA:=aa (λW (hW:ac w W) (L:Nat)=>Ah B m d L rs W hm (hB.ah hW) (by omega));have C3:=St.Du (E:=St.bj fmt) (fmt:=fmt) (k:=j) hv hc (by omega:ts.length=rs.length) lW;rw[hv]at HV;rw[j6]at hc HC lW C3;rw[hpt]at C3;have La:=pZ ps j hj;obtain⟨b,off,rfl,hb,hcl⟩:=h (by omega);have sr:=(hcl j hj).2.2;have jh:=aa (λW (hW:ac w W)=>Fb b off n c ps W hn (Nat.lt_of_lt_of_le hb hW.size) (λi hi=>⟨(hW.cell hb).trans (hcl i hi).1,(hW.cell hb).trans (hcl i hi).2.1,(hW.cell hb).trans (hcl i hi).2.2⟩) (by omega));have hok:=hF.ok _ hc;obtain⟨dS,hrw'⟩:∃dS:ByteArray,dS=⟨ps[j].2.2.toArray⟩:=⟨_,rfl⟩;have hrl:dS.1.1=ps[j].2.2:=by rw[hrw']
 have pU:dS.size=ps[j].2.2.length:=by rw[<-hrl,St.aD]
 rw[<-hrw']at sr;have xp:=aa (λW (hW:ac w W)=>hF.cut dS W hW (by omega));have zE:=aa (λ(s:ByteArray) W (hW:ac w W) (hs:s.size<=1000000000)=>hF.dec s W hW hs);have rH:=aa hF.enc;have HH:=aa h;have HB:=aa hB;have rk:=aa hC;rw[hrl]at xp;generalize qA:ps[j].2.2=au at *;generalize D au=R at hc HC lW C3 hok xp;obtain⟨f,cuts,tt,er⟩:=R;have hcut:=hok.cl;have htot:=hok.aP;have hle:=hok.le;have hlen:=hok.len;have hmono:=hok.mono;have htop:=hok.top;simp only at hc hcut htot hle hlen hmono htop lW xp C3;subst hc;generalize St.eH D S (St.bj fmt) fmt ps (j:Int) rs ts=RR at *;have rM:=aa C3;have rm:=aa hts;have jk:=aa hen;have xx:=aa hmono;have xD:=aa htop;have rF:=aa lW;have HN:=aa hn;have HM:=aa hm;have oH:=aa hm2;have vb:=aa hrl;have MI:=aa hcl;have rL:=aa sr;have FD:=aa hb;clear hok j6 hpt hF C3 hts hen hmono htop lW hrw' hB hC h hcl sr;go_enter Tryz.func16,Tryz.ntmps16;go_wp2_with fail;refine(HV.out _ uZ).mono ?_;rintro e w1 ⟨rfl,hu1⟩;have hd1:=(Hd.start w fmt (VN ⟨b,off,VM⟩) n c).ah hu1;have a0:=hd1.lN;have a1:=hd1.pI;haveI l0:=hd1.l0;have oF:=aa hd1;clear hd1 hu1;go_wp2_with fail;refine(HC.out _ oF.out.u).mono ?_;rintro e w2 ⟨A2,c2,rfl,hI,hc2,hc3,hu2⟩;have HI:=aa hI;have bJ:=aa (oF.out.ah hu2);clear hu2 a0 a1 hI l0;simp only;go_wp2_with fail;refine(kk A2 f.length c2 f w2 rfl HI.out (by omega) (by omega)).mono ?_;rintro e w3 ⟨rfl,hu3⟩;have rG:=aa (bJ.out.ah hu3);have ba:=aa hu3;clear hu3;go_wp2_with fail;refine(HA.out _ rG.out.u _).mono ?_;rintro e w4 ⟨rfl,aU⟩;have lm:=rG.out.ah aU;have fD:=aa (ba.out.trans aU);have a0:=lm.lN;have a1:=lm.pI;haveI l0:=lm.l0;have p0:=(lm.u.cell (p:=⟨b,off+j*3+2,VM⟩) FD.out).trans rL.out;haveI lb:af b w4:=af.of (Nat.lt_of_lt_of_le hb lm.u.size);have Ks:=aa lm;have y1:(j:Int)<(n:Int):=by omega
 have y2:¬(j:Int)<0:=by omega
 clear lm aU;rw[rF.out];go_wp2_with fail;refine(xp.out _ Ks.out.u).mono ?_;rintro e w5 ⟨A5,c5,rfl,NM,R7,hc52,a8⟩;have SU:=aa NM;have SJ:=aa (Ks.out.ah a8);have cL:=aa (fD.out.trans a8);clear NM a8 a0 a1 p0 lb l0;have PT:=hcut;generalize NM:cuts.length=N5 at hcut |- R7;obtain⟨L,hL⟩:∃L,L=St.aR f:=⟨_,rfl⟩;rw[<-hL]at hcut;have I4:=rF.out;rw[<-hL]at I4;have DK:=aa I4;have KU:A2=VM->True:=λ_=>trivial
 clear I4 HV HC HA xp HH MI rL hv qA KU vb rF;go_wp2_with fail;go_loopw [16,17,73] (λOJ mJ H7 wr=>F1 w w5 (VN ⟨b,off,VM⟩) n c fmt au cuts L rs ts OJ mJ H7 wr) (λ_ _ H7 _=>m+1-(intOf H7).toNat)
 case atStart=>exact⟨0,0,0,⟨#[]⟩,by omega,rfl,rfl,rfl,by omega,by omega,DK.out,Nat.le_refl 0,by simp,SJ.out,ac.refl _⟩
 case round=>
  obtain⟨i,a,x,sB,hi,rfl,rfl,rfl,hax,hxL,has,hsz,hen,hd,hu⟩:=hrel;have HU:=aa hu;have HD:=aa hd;have qi:=aa hen;have hM:=HM.out;have U0:=oH.out
  have C5:cuts.getD x 0<=au.length:=by
   rw[List.getD_eq_getElem?_getD,List.getElem?_eq_getElem (show x<cuts.length by omega),Option.getD_some];exact xD.out _ (List.getElem_mem _)
  have a0:=hd.lN;haveI l0:=hd.l0
  by_cases hlt:i<m
  ·have aG:i<rs.length:=by omega
   have dW:i<ts.length:=by omega
   obtain⟨b2,off2,rfl,hb2,hc2'⟩:=(HB.out.ah hd.u) (by omega);obtain⟨c0,c1⟩:=hc2' i aG;obtain⟨b3,off3,rfl,hb3,hc3'⟩:=(rk.out.ah hd.u) (by omega);obtain⟨At,ct,g0,gI,gn,gc,gA⟩:=hc3' i dW;obtain⟨b5,off5,rfl,bR,hc5'⟩:=(SU.out.ah hu) (by omega);rw[nO _ _ rs i aG]at has;have eF:=St.Am (St.bj fmt) au cuts a sB.1.1 rs ts i aG dW;have fl:=rm.out ts[i] (List.getElem_mem dW);have eg:=jk.out ts[i] (List.getElem_mem dW);generalize rs[i]=r at c0 c1 has eF;generalize ts[i]=t at g0 gI gn eF fl eg;obtain⟨p,q⟩:=r;simp only at c0 c1 has eF
   split at has
   ·cases has
   rename_i hcond
   obtain⟨p',rfl⟩:∃p':Nat,p=p':=⟨p.toNat,by omega⟩;obtain⟨q',rfl⟩:∃q':Nat,q=q':=⟨q.toNat,by omega⟩;have hap:x<=p':=by omega
   have kM:p'<=q':=by omega
   have GL:q'<=L:=by omega
   simp only[Int.toNat_natCast]at eF;have m1:=St.tp xx.out hap (show p'<cuts.length by omega);have m2:=St.tp xx.out kM (show q'<cuts.length by omega);have vB:=hc5' p' (by omega);have tK:=hc5' q' (by omega);have gp:cuts.getD p' 0=cuts[p']:=by rw[List.getD_eq_getElem?_getD,List.getElem?_eq_getElem (show p'<cuts.length by omega),Option.getD_some]
   have gq:cuts.getD q' 0=cuts[q']:=by rw[List.getD_eq_getElem?_getD,List.getElem?_eq_getElem (show q'<cuts.length by omega),Option.getD_some]
   have tq:=xD.out _ (List.getElem_mem (show q'<cuts.length by omega));rw[<-gp]at vB;rw[<-gq]at tK tq;have rq:=aa (λW (hW:ac wr W)=>rH.out At t.length ct t W (hd.u.trans hW) rfl gn gc (gI.ah hW) (by omega) (by omega));generalize St.bj fmt t=Et at eF eg rq;obtain⟨tl,te⟩:=Et;simp only at eF eg rq;have htl:(⟨tl.toArray⟩:ByteArray).1.1=tl:=by simp
   have rA:(⟨tl.toArray⟩:ByteArray).size=tl.length:=by show tl.toArray.size=_;simp
   generalize(⟨tl.toArray⟩:ByteArray)=tB at rq htl rA;obtain⟨cp,hcpe⟩:∃cp,cp=cuts.getD p' 0:=⟨_,rfl⟩;obtain⟨cq,hcqe⟩:∃cq,cq=cuts.getD q' 0:=⟨_,rfl⟩;rw[<-hcpe]at vB eF m1 m2;have KZ:=hcqe;rw[<-hcqe]at tK tq eF m2;haveI Oy:af b2 wr:=af.of hb2;haveI Ra:af b3 wr:=af.of hb3;haveI Rb:af b5 wr:=af.of bR;have z1:(i:Int)<(m:Int):=by omega
   have z2:¬(i:Int)<0:=by omega
   have z3:(p':Int)<(N5:Int):=by omega
   have z4:(q':Int)<(N5:Int):=by omega
   have z5:(a:Int)<=(cp:Int):=by omega
   have z6:(cp:Int)<=(dS.size:Int):=by omega
   have z7:(0:Int)<=(a:Int):=by omega
   have P9:=aa gI;clear hc2' hc3' hc5' hcond gp gq hu hd hen gI hcpe xx xD
   by_cases hte:te=0
   ·subst hte;have hfin:∀W,ac wr W->F1 w w5 (VN ⟨b,off,VM⟩) n c fmt au cuts L rs ts (VE (sB++(dS.extract a cp++tB))) (VD VJ (cq:Int)) (VD VJ ((i:Int)+1)) W:=λW hW=>
     ⟨i+1,cq,q',_,by omega,congrArg (VD VJ) (by omega),rfl,rfl,by rw[hcqe];exact Nat.le_refl _,GL,has,by rw[ByteArray.size_append,ByteArray.size_append,ByteArray.size_extract];omega,by
      rw[qi.out,eF,if_neg (by simp),ByteArray.data_append,Array.toList_append,ByteArray.data_append,Array.toList_append,dU,htl,hrl],HD.out.ah hW,HU.out.trans hW⟩
    have dq:=aa hfin;clear hfin eF has hcqe KZ;go_wp2_with fail
    first|refine aB (by kernel_rfl) (by kernel_rfl) ?_|refine aI (by kernel_rfl) (by kernel_rfl) ?_
    repeat (go_big_quiet_step (first|((go_at_call 50;exact Calls.cK (rq.out _ uZ)))))
    refine wpQuiet_nil ?_;rintro _ ⟨X,rfl⟩;go_wp2_with fail;exact⟨dq.out _ uZ,by simp[intOf];omega⟩
   have hR:=aa (show RR=((0,[]),te)by rw[rM.out,qi.out,eF,if_pos hte]);have z8:(te==0)=false:=by simpa using hte
   have z9:(te != 0)=true:=by simpa using hte
   clear eF has hcqe KZ hte;go_wp2_with fail
   first|refine aB (by kernel_rfl) (by kernel_rfl) ?_|refine aI (by kernel_rfl) (by kernel_rfl) ?_
   repeat (go_big_quiet_step (first|((go_at_call 50;exact Calls.cK (rq.out _ uZ)))))
   refine wpQuiet_nil ?_;rintro _ ⟨X,rfl⟩;have dV:=HD.out.ah (uZ:ac wr (under (wr.alloc (VK #[VD VJ (p':Int),VD VJ (q':Int)] 33)) X));have y0:=dV.vi;have y3:=dV.vj;have r0:=dV.bl;have r1:=dV.j4;have q0:=dV.f10;have q1:=dV.f11;haveI l1:=dV.l1;haveI l2:=dV.l2;have My:=aa dV;clear dV;generalize under (wr.alloc (VK #[VD VJ (p':Int),VD VJ (q':Int)] 33)) X=w6 at *;go_wp2;refine bodyPost_ret (v:=VI #[.agg #[VD VJ 0,VF VM 0 0],VD VJ te]) ?_ rfl ?_
   ·simp[results,Tryz.results16,go_sem,r0,r1]
   exact dw.fX hR.out (My.out.set _ _)
  have hkn:i=m:=by omega
  subst hkn;have lg:=rM.out;rw[qi.out,List.drop_of_length_le (by omega),List.drop_of_length_le (by omega)]at lg;simp only[St.mL,Int.toNat_natCast]at lg
  have GP:(sB++dS.extract a au.length).1.1=sB.1.1++au.drop a:=by
   rw[ByteArray.data_append,Array.toList_append,dU,hrl];unfold St.be;rw[List.take_of_length_le (by omega)]
  have TP:(sB++dS.extract a au.length).size<=200000000:=by rw[ByteArray.size_append,ByteArray.size_extract];omega
  rw[<-GP]at lg;have Gt:=zE.out (sB++dS.extract a au.length);have z5:(a:Int)<=(dS.size:Int):=by omega
  have z7:(0:Int)<=(a:Int):=by omega
  have DL:=aa Gt;have HP:=aa (λW (hW:ac wr W)=>Ge A2 B C f.length c2 i d e0 f rs ts W rfl hm hm2 (HI.out.ah ((cL.out.trans hu).trans hW)) (HB.out.ah (hd.u.trans hW)) (rk.out.ah (hd.u.trans hW)) hlen (by omega) fj (λt ht=>⟨(rm.out t ht).1,by have:=(rm.out t ht).2;omega⟩) (by rw[<-hL];exact DK.out));have FN:=aa lg;clear lg Gt GP hen hax has hlt rM rH qi HB rk DK rm jk xx xD hu;go_wp2_with fail;generalize sB++dS.extract a au.length=sF at *;refine(DL.out _ hd.u (by omega)).mono ?_;rintro e w6 ⟨A6,c6,rfl,hI6,I6,hc62,dz⟩;have dV:=hd.ah dz;have My:=aa dV;have dO:=aa dz;have ML:=aa hI6;have rr:=FN.out;unfold St.zv at rr;have hsl:sF.1.1.length=sF.size:=St.aD sF;generalize D sF.1.1=R6 at rr ML I6 |-;obtain⟨g6,cu6,t6,e6⟩:=R6;simp only at rr ML I6 |-;have nJ:=aa rr;clear rr FN hsz a0 hI6 dz hd l0
  by_cases sf:e6=0
  ·subst sf;clear dV;go_wp2_with fail;refine(HP.out _ dO.out).mono ?_;rintro e w7 ⟨v7,rfl,db,hl7,ht7,bC⟩;obtain⟨A7,c7,rfl,hc71,hc72,_⟩:=aJ db;have Qe:=aa (aM db rfl);have iN:=aa bC;have SK:=aa (My.out.ah bC);generalize St.kt f rs ts=P7 at *;clear db bC HP;go_wp2_with fail;refine(EI A7 P7.length c7 P7 w7 rfl Qe.out (by omega) (by omega)).mono ?_;rintro e w8 ⟨v8,rfl,od,jq⟩;obtain⟨A8,c8,rfl,hc81,hc82,_⟩:=aJ od;have Kv:=aa (aM od rfl);have mS:=aa (iN.out.trans jq);have Kt:=aa (SK.out.ah jq);generalize St.lA P7=P8 at *;have R8:c8<=9223372036854775807:=by unfold maxLen at hc82;omega
   clear od jq Qe;go_wp2_with fail;refine(G7 A6 A8 g6.length P8.length c6 c8 g6 P8 w8 rfl rfl I6 hc81 hc62 R8 (ML.out.ah mS.out) Kv.out).mono ?_;rintro e w9 ⟨rfl,kN⟩;have gO:=Kt.out.ah kN;clear kN;obtain⟨bb,hbb⟩:∃bb,bb=decide (g6=P8):=⟨_,rfl⟩;rw[<-hbb];cases bb
   ·have hR:=aa (show RR=((0,[]),11)by rw[nJ.out,if_neg (by simp),if_pos (of_decide_eq_false hbb.symm)]);clear hbb;have y0:=gO.vi;have y3:=gO.vj;have r0:=gO.bl;have r1:=gO.j4;have q0:=gO.f10;have q1:=gO.f11;haveI l1:=gO.l1;haveI l2:=gO.l2;have zE:=aa gO;clear gO;go_wp2;refine bodyPost_ret (v:=VI #[.agg #[VD VJ 0,VF VM 0 0],VD VJ (11)]) ?_ rfl ?_
    ·simp[results,Tryz.results16,go_sem,r0,r1]
    exact dw.fX hR.out (zE.out.set _ _)
   have hR:=aa (show RR=if 65536<(St.bp (St.dj ps j sF.1.1)).length then((0,[]),3)else((fmt,St.dj ps j sF.1.1),0)by rw[nJ.out,if_neg (by simp),if_neg (by simpa using of_decide_eq_true hbb.symm)]);have a0:=gO.lN;have a1:=gO.pI;have y0:=gO.vi;have y3:=gO.vj;haveI l0:=gO.l0;haveI l1:=gO.l1;haveI l2:=gO.l2;have tG:=aa gO;have hn0:0<n:=by omega
   clear hbb gO;go_wp2_with fail;go_cut [23]from 24 (λBP wx=>wm w w9 fmt (VN ⟨b,off,VM⟩) n c ps BP wx)
   case first=>
    go_region_law (first
     | (refine dk rfl 55 #[VF (VN ⟨b,off,VM⟩) n c] _ (jh.out (w9.alloc (VK #[VD VJ 0,VF VM 0 0] 25)).drew (tG.out.u.trans uZ)) ?_ ?_;(· go_simp;done);rintro e gu ⟨v10,rfl,gy,hu10⟩;obtain⟨g10,k10,rfl,hg10,hgl10,hoo10⟩:=qP gy hn0;have Ju:w9.1.size+1<=(w9.alloc (VK #[VD VJ 0,VF VM 0 0] 25)).drew.1.size:=(by simp);have iS:=(hu10.below.block w9.1.size (by simp)).trans (heap_alloc_new w9 (VK #[VD VJ 0,VF VM 0 0] 25));have d0:gu.cell? ⟨w9.1.size,0,VM⟩=VN (VD VJ 0):=ai iS 0;have d1:gu.cell? ⟨w9.1.size,1,VM⟩=VN (VF VM 0 0):=ai iS 1;have f0:gu.frozen? ⟨w9.1.size,0,VM⟩=false:=bg iS 0;have f1:gu.frozen? ⟨w9.1.size,1,VM⟩=false:=bg iS 1;have AN:=tG.out.ah (ac.trans uZ hu10);have b0:=AN.lN;haveI k0:=AN.l0;haveI k1:af w9.1.size gu:=af.of (ae iS);refine⟨_,rfl,?_⟩)
     | (refine dk rfl 55 #[VF (VN ⟨b,off,VM⟩) n c] _ (jh.out w9.drew (tG.out.u.trans uZ)) ?_ ?_;(· go_simp;done);rintro e gu ⟨v10,rfl,gy,hu10⟩;obtain⟨g10,k10,rfl,hg10,hgl10,hoo10⟩:=qP gy hn0;have Ju:w9.1.size<=w9.drew.1.size:=(by simp);have AN:=tG.out.ah (ac.trans uZ hu10);have b0:=AN.lN;haveI k0:=AN.l0;refine⟨_,rfl,?_⟩))
    all_goals
     go_wp2_with fail;go_meet
     first
      | exact Cd tG.out hoo10 Ju (ac.trans uZ hu10) hn0
      | exact DY tG.out hoo10 Ju (ac.trans uZ hu10) hn0
   case rest=>
    obtain⟨gd,g,cap,cur,rfl,hgd,sk,hne,hgdh,hgh,hcs,hncap,hcap,hct,eK,tO⟩:=hcut;have mG:=JO ps j sF.1.1;have hsl:=nv ps j sF.1.1;have hp:=tJ (s:=sF.1.1) hn (by omega:j<n) hgh hcs hncap hcap hct;rw[aX]at hp;have j7:=tO.setCell (p:=⟨g,j*3+2,VM⟩) sk (VE sF);have tM:=(heap_setCell_other wc ⟨g,j*3+2,VM⟩ gd (VE sF) hne).trans hgdh;have hds:=tG.out.ah j7;have d0:wc.cell? ⟨gd,0,VM⟩=VN (VD VJ fmt):=ai hgdh 0;have d1:wc.cell? ⟨gd,1,VM⟩=VN (VF (VN ⟨g,0,VM⟩) n cap):=ai hgdh 1;have e2:wc.frozen? ⟨g,j*3+2,VM⟩=false:=bg hgh (j*3+2);obtain⟨v2,hv2⟩:∃v2,wc.cell? ⟨g,j*3+2,VM⟩=VN v2:=⟨_,(ai hgh (j*3+2)).trans (Array.getElem?_eq_getElem (by omega))⟩;have s0:(wc.setCell ⟨g,j*3+2,VM⟩ (VE sF)).cell? ⟨gd,0,VM⟩=VN (VD VJ fmt):=ai tM 0;have s1:(wc.setCell ⟨g,j*3+2,VM⟩ (VE sF)).cell? ⟨gd,1,VM⟩=VN (VF (VN ⟨g,0,VM⟩) n cap):=ai tM 1;haveI m0:af gd wc:=af.of (ae hgdh);haveI m1:af g wc:=af.of (ae hgh);have FH:=aa hds;have KA:=aa hp;have Qa:=aa tM;clear eK tO j7 hds tM hp hgdh hgh hct a0 a1 y0 y3 l0 l1 l2;go_wp2_with fail;generalize wc.setCell ⟨g,j*3+2,VM⟩ (VE sF)=Rl at *;refine(qp fmt (VN ⟨g,0,VM⟩) n cap (St.dj ps j sF.1.1) Rl (by omega) KA.out (by omega) (by omega)).mono ?_;rintro e kV ⟨rfl,hu12⟩;have gx:=FH.out.ah hu12;have Ew:=(hu12.below.block gd (ae Qa.out)).trans Qa.out;have RG:=aa (KA.out.ah hu12);have t0:kV.cell? ⟨gd,0,VM⟩=VN (VD VJ fmt):=ai Ew 0;have t1:kV.cell? ⟨gd,1,VM⟩=VN (VF (VN ⟨g,0,VM⟩) n cap):=ai Ew 1;haveI m2:af gd kV:=af.of (ae Ew);have hbz:(⟨(St.bp (St.dj ps j sF.1.1)).toArray⟩:ByteArray).size=(St.bp (St.dj ps j sF.1.1)).length:=by show(St.bp (St.dj ps j sF.1.1)).toArray.size=_;simp
    generalize(⟨(St.bp (St.dj ps j sF.1.1)).toArray⟩:ByteArray)=F6 at *;have qh:=aa gx;have r0:=gx.bl;have r1:=gx.j4;have q0:=gx.f10;have q1:=gx.f11;have y0:=gx.vi;have y3:=gx.vj;haveI l1:=gx.l1;haveI l2:=gx.l2;clear s0 s1 d0 d1 e2 hv2 hu12 Ew gx m0 m1
    by_cases hbig:65536<(St.bp (St.dj ps j sF.1.1)).length
    ·have NN:=aa (show RR=((0,[]),3)by rw[hR.out,if_pos hbig]);have z1:(65536:Int)<(F6.size:Int):=by omega
     clear hbz hbig hR;go_wp2;refine bodyPost_ret (v:=VI #[.agg #[VD VJ 0,VF VM 0 0],VD VJ 3]) ?_ rfl ?_
     ·simp[results,Tryz.results16,go_sem,r0,r1]
     exact dw.fX NN.out (qh.out.set _ _)
    have NN:=aa (show RR=((fmt,St.dj ps j sF.1.1),0)by rw[hR.out,if_neg hbig]);have z1:¬(65536:Int)<(F6.size:Int):=by omega
    have hE:=aa (λu v=>iP RG.out qh.out.b1 u v);clear hbz hbig hR;go_wp2;refine bodyPost_ret (v:=VI #[.agg #[VD VJ fmt,VF (VN ⟨g,0,VM⟩) n cap],VD VJ 0]) ?_ rfl ?_
    ·simp[results,Tryz.results16,go_sem,r0,r1]
    rw[NN.out];exact⟨VN ⟨g,0,VM⟩,cap,by simp only;rw[hsl,hn],hE.out _ _,by simp only;omega,hcap,qh.out.set _ _⟩
  have hR:=aa (show RR=((0,[]),e6)by rw[nJ.out,if_pos sf]);have z8:(e6==0)=false:=by simpa using sf
  have z9:(e6 != 0)=true:=by simpa using sf
  have gO:=dV;clear dV sf;have y0:=gO.vi;have y3:=gO.vj;have r0:=gO.bl;have r1:=gO.j4;have q0:=gO.f10;have q1:=gO.f11;haveI l1:=gO.l1;haveI l2:=gO.l2;have zE:=aa gO;clear gO;go_wp2;refine bodyPost_ret (v:=VI #[.agg #[VD VJ 0,VF VM 0 0],VD VJ (e6)]) ?_ rfl ?_
  ·simp[results,Tryz.results16,go_sem,r0,r1]
  exact dw.fX hR.out (zE.out.set _ _)
end
end
section
variable {fmt:Int} {D:List UInt8->St.gM} {S:List UInt8->List St.Pt × Nat × Int}
theorem r5(A B C:Option Addr)(n c m d m2 e0:Nat)(ps:List St.Pt)(k:Int)(rs:List (Int × Int))(ts:List (List St.It))(w:VO)(hF:lR w fmt D S)(hn:ps.length=n)(hnc:n<=c)(cN:c<=9223372036854775807)(hm:rs.length=m)(hm2:ts.length=m2)(h:aY w A ps)(hB:dL w B rs)(hC:fS w C ts)(hl:n<=1000000)(hr:(St.bp ps).length<=1000000)(fj:m<=20)
  (hts:∀t∈ts,t.length<=1100/\aP t<=20000000) (hen:∀t∈ts,(St.bj fmt t).1.length<=1000000) :
  Calls Tryz.prog 16 #[.agg #[VD VJ fmt,VF A n c],VD VJ k,VF B m d,VF C m2 e0] w (dw (St.eH D S (St.bj fmt) fmt ps k rs ts) w):=by
 by_cases hbad:St.eZ S ps≠0\/(St.bL D ps k).2.2.2≠0\/ts.length≠rs.length\/St.dM (St.aR (St.bL D ps k).1) 0 rs=false
 ·exact D8 A B C n c m d m2 e0 ps k rs ts w hF hn hnc cN hm hm2 h hB hl hr fj hbad
 have h1:St.eZ S ps=0:=Decidable.byContradiction λe=>hbad (.inl e)
 have h2:(St.bL D ps k).2.2.2=0:=Decidable.byContradiction λe=>hbad (.inr (.inl e))
 have h3:ts.length=rs.length:=Decidable.byContradiction λe=>hbad (.inr (.inr (.inl e)))
 have h4:St.dM (St.aR (St.bL D ps k).1) 0 rs=true:=by
  cases hq:St.dM (St.aR (St.bL D ps k).1) 0 rs
  ·exact absurd (.inr (.inr (.inr hq))) hbad
  rfl
 obtain⟨j,hj,rfl,_,j6,hpt⟩:=St.ta h2;obtain rfl:m2=m:=by omega
 exact Gd A B C n c m2 d e0 j ps rs ts w hF hn hnc cN hm hm2 h hB hC hl hr fj hts hen hj h1 h2 j6 hpt h4
end
