/- For document.Replace: its own blocks in memory, the cases of St.replD, and the errors. -/
import Derived.Test.YthoemdibbldndaaGreatDoorDcB
import Derived.Deep.CutRange
set_option linter.all false
set_option maxHeartbeats 0
set_option maxRecDepth 20000
open Go.Value renaming int->UM,string->UN,slice->UO,pointer->UQ,tuple->UR
open Go.IntKind renaming i64->US
open Go.Obj renaming cells->UT
open Option renaming none->UW,some->UX
open Go renaming World->UY
namespace Go.Proofs.YthoemdibbldndaaGreatDoor
open Go.RowKit
section
namespace St
variable {D:List UInt8->gg} {S:List UInt8->List Pt × Nat × Int} {E:List It->List UInt8 × Int} {fmt:Int} {ps:List Pt} {k:Int} {rs:List (Int × Int)} {ts:List (List It)}
theorem MU(h:fA S ps≠0):fh D S E fmt ps k rs ts=((0,[]),fA S ps):=by unfold fh;rw[if_pos h]
theorem MS(h0:fA S ps=0)(h:(bL D ps k).2.2.2≠0):fh D S E fmt ps k rs ts=((0,[]),(bL D ps k).2.2.2):=by
 unfold fh;rw[if_neg (by simpa using h0),if_pos h]
theorem MR(h0:fA S ps=0)(h1:(bL D ps k).2.2.2=0)(h:ts.length≠rs.length\/eI (ay (bL D ps k).1) 0 rs=false):fh D S E fmt ps k rs ts=((0,[]),1):=by
 unfold fh;rw[if_neg (by simpa using h0),if_neg (by simpa using h1),if_pos h]
theorem MT(h0:fA S ps=0)(h1:(bL D ps k).2.2.2=0)(h:ts.length=rs.length)(h':eI (ay (bL D ps k).1) 0 rs=true):fh D S E fmt ps k rs ts=match iW E (fO ps k).2.2 (bL D ps k).2.1 0 [] rs ts with
  | .error e=>((0,[]),e)
  | .ok (s,at')=>vZ D fmt ps k.toNat (mZ (fw (bL D ps k).1 rs ts)) (s++(fO ps k).2.2.drop at'):=by
 unfold fh;rw[if_neg (by simpa using h0),if_neg (by simpa using h1),if_neg (by simp[h,h'])];split<;>rename_i e<;>rw[e]
theorem wL(h:(bL D ps k).2.2.2=0):∃(j:Nat) (hj:j<ps.length),k=j/\ps[j].1=true/\bL D ps k=D ps[j].2.2/\fO ps k=ps[j]:=by
 by_cases hk:0<=k
 ·obtain⟨j,rfl⟩:∃j:Nat,k=j:=⟨k.toNat,by omega⟩;have hp:fO ps (j:Int)=(ps[j]?).getD (false,[],[]):=by unfold fO;rw[if_pos hk];simp
  by_cases hj:j<ps.length
  ·rw[List.getElem?_eq_getElem hj,Option.getD_some]at hp;unfold bL at h
   split at h
   ·rename_i hu
    refine⟨j,hj,rfl,by rw[<-hp];exact hu,?_,hp⟩;unfold bL;rw[if_pos hu,hp]
   cases h
  rw[List.getElem?_eq_none (by omega)]at hp;unfold bL at h;rw[hp]at h;cases h
 have hp:fO ps k=(false,[],[]):=by unfold fO;rw[if_neg hk]
 unfold bL at h;rw[hp]at h;cases h
theorem JC(E:List It->List UInt8 × Int)(raw:List UInt8)(cuts:List Nat)(a:Nat)(s:List UInt8)(rs:List (Int × Int))(ts:List (List It))(k:Nat)(h:k<rs.length)(h':k<ts.length) :
  iW E raw cuts a s (rs.drop k) (ts.drop k)=if(E ts[k]).2≠0 then .error (E ts[k]).2 else iW E raw cuts (cuts.getD rs[k].2.toNat 0) (s++(aY raw a (cuts.getD rs[k].1.toNat 0)++(E ts[k]).1)) (rs.drop (k+1)) (ts.drop (k+1)):=by
 rw[List.drop_eq_getElem_cons h,List.drop_eq_getElem_cons h',iW];rfl
theorem DI{c:List Nat}(h:c.Pairwise (·<=·)){i j:Nat}(hij:i<=j)(hj:j<c.length):c.getD i 0<=c.getD j 0:=by
 rw[List.getD_eq_getElem?_getD,List.getD_eq_getElem?_getD,List.getElem?_eq_getElem hj,List.getElem?_eq_getElem (show i<c.length by omega),Option.getD_some,Option.getD_some];rcases Nat.lt_or_eq_of_le hij with h1|rfl
 ·exact List.pairwise_iff_getElem.1 h i j (by omega) hj h1
 exact Nat.le_refl _
end St
structure Hd (w W:UY) (fmt:Int) (A:Option Addr) (n c:Nat):Prop where
 u:ac w W
 b0:W.1[w.1.size]?=UX (UT #[UM US fmt,UO A n c] 25)
 b1:W.1[w.1.size+1]?=UX (UT #[UM US 0,UO UW 0 0] 25)
 b2:W.1[w.1.size+2]?=UX (UT #[UM US 0,UO UW 0 0] 25)
theorem Hd.start(w:UY)(fmt:Int)(A:Option Addr)(n c:Nat):Hd w (((w.alloc (UT #[UM US fmt,UO A n c] 25)).alloc (UT #[UM US 0,UO UW 0 0] 25)).alloc (UT #[UM US 0,UO UW 0 0] 25)) fmt A n c:=by
 have e1:=heap_alloc_new w (UT #[UM US fmt,UO A n c] 25);have e2:=heap_alloc_new (w.alloc (UT #[UM US fmt,UO A n c] 25)) (UT #[UM US 0,UO UW 0 0] 25);have e3:=heap_alloc_new ((w.alloc (UT #[UM US fmt,UO A n c] 25)).alloc (UT #[UM US 0,UO UW 0 0] 25)) (UT #[UM US 0,UO UW 0 0] 25);have u1:=((ac.refl (w.alloc (UT #[UM US fmt,UO A n c] 25))).alloc (UT #[UM US 0,UO UW 0 0] 25)).alloc (UT #[UM US 0,UO UW 0 0] 25);have u2:=(ac.refl ((w.alloc (UT #[UM US fmt,UO A n c] 25)).alloc (UT #[UM US 0,UO UW 0 0] 25))).alloc (UT #[UM US 0,UO UW 0 0] 25);refine⟨uZ,(u1.below.block w.1.size (by simp)).trans e1,?_,?_⟩
 ·have hs:(w.alloc (UT #[UM US fmt,UO A n c] 25)).1.size=w.1.size+1:=by simp
  rw[hs]at e2;exact(u2.below.block (w.1.size+1) (by simp)).trans e2
 have hs:((w.alloc (UT #[UM US fmt,UO A n c] 25)).alloc (UT #[UM US 0,UO UW 0 0] 25)).1.size=w.1.size+2:=by simp
 rw[hs]at e3;exact e3
section
variable {w W W':UY} {fmt:Int} {A:Option Addr} {n c:Nat}
theorem Hd.ai(h:Hd w W fmt A n c)(u:ac W W'):Hd w W' fmt A n c:=
 ⟨h.u.trans u,(u.below.block _ (ae h.b0)).trans h.b0,(u.below.block _ (ae h.b1)).trans h.b1,(u.below.block _ (ae h.b2)).trans h.b2⟩
theorem Hd.xP(h:Hd w W fmt A n c):W.cell? ⟨w.1.size,0,UW⟩=UX (UM US fmt):=ak h.b0 0
theorem Hd.Gz(h:Hd w W fmt A n c):W.cell? ⟨w.1.size,1,UW⟩=UX (UO A n c):=ak h.b0 1
theorem Hd.bB(h:Hd w W fmt A n c):W.cell? ⟨w.1.size+1,0,UW⟩=UX (UM US 0):=ak h.b1 0
theorem Hd.xQ(h:Hd w W fmt A n c):W.cell? ⟨w.1.size+1,1,UW⟩=UX (UO UW 0 0):=ak h.b1 1
theorem Hd.vh(h:Hd w W fmt A n c):W.cell? ⟨w.1.size+2,0,UW⟩=UX (UM US 0):=ak h.b2 0
theorem Hd.vi(h:Hd w W fmt A n c):W.cell? ⟨w.1.size+2,1,UW⟩=UX (UO UW 0 0):=ak h.b2 1
theorem Hd.f10(h:Hd w W fmt A n c):W.frozen? ⟨w.1.size+1,0,UW⟩=false:=bk h.b1 0
theorem Hd.f11(h:Hd w W fmt A n c):W.frozen? ⟨w.1.size+1,1,UW⟩=false:=bk h.b1 1
theorem Hd.l0(h:Hd w W fmt A n c):af w.1.size W:=af.of (ae h.b0)
theorem Hd.l1(h:Hd w W fmt A n c):af (w.1.size+1) W:=af.of (ae h.b1)
theorem Hd.l2(h:Hd w W fmt A n c):af (w.1.size+2) W:=af.of (ae h.b2)
theorem Hd.set(h:Hd w W fmt A n c)(u v:Value):ac w ((W.setCell ⟨w.1.size+1,0,UW⟩ u).setCell ⟨w.1.size+1,1,UW⟩ v):=
 ac.mk ((h.u.below.setCell (p:=⟨w.1.size+1,0,UW⟩) (by simp) u).setCell (p:=⟨w.1.size+1,1,UW⟩) (by simp) v)
end
def gG(R:(Int × List St.Pt) × Int)(w:UY)(e:Ending)(w':UY):Prop:=
 ∃A c,e=.returned (UR #[.agg #[UM US R.1.1,UO A R.1.2.length c],UM US R.2])/\bn w' A R.1.2/\R.1.2.length<=c/\c<=9223372036854775807/\ac w w'
theorem gG.kT{R:(Int × List St.Pt) × Int}{er:Int}{w w':UY}(h:R=((0,[]),er))(u:ac w w'):gG R w (.returned (UR #[.agg #[UM US 0,UO UW 0 0],UM US er])) w':=by
 subst h;exact⟨UW,0,rfl,λh=>absurd h (by simp),by simp,by omega,u⟩
end
section
section
variable {fmt:Int} {D:List UInt8->St.gg} {S:List UInt8->List St.Pt × Nat × Int}
theorem EK(A B C:Option Addr)(n c m d m2 e0:Nat)(ps:List St.Pt)(k:Int)(rs:List (Int × Int))(ts:List (List St.It))(w:UY)(hF:l7 w fmt D S)(hn:ps.length=n)(hnc:n<=c)(dz:c<=9223372036854775807)(hm:rs.length=m)(hm2:ts.length=m2)(h:bn w A ps)(hB:fB w B rs)(hl:n<=1000000)(hr:(St.b6 ps).length<=1000000)(fj:m<=20)
  (hbad:St.fA S ps≠0\/(St.bL D ps k).2.2.2≠0\/ts.length≠rs.length\/St.eI (St.ay (St.bL D ps k).1) 0 rs=false) :
  Calls Tryz.prog 16 #[.agg #[UM US fmt,UO A n c],UM US k,UO B m d,UO C m2 e0] w (gG (St.fh D S (St.bj fmt) fmt ps k rs ts) w):=by
 have HV:=aa (λW (hW:ac w W)=>vo A n c ps W (hF.ai hW) hn hnc dz (h.ai hW) (by omega) (by omega));have HC:=aa (λW (hW:ac w W)=>xT A n c ps k W (hF.ai hW) hn (h.ai hW) (by omega) (by omega));have HA:=aa (λW (hW:ac w W) (L:Nat)=>Ay B m d L rs W hm (hB.ai hW) (by omega))
 by_cases hv:St.fA S ps=0
 ·rw[hv]at HV
  by_cases hc:(St.bL D ps k).2.2.2=0
  ·have hR:=aa (St.MR (E:=St.bj fmt) (fmt:=fmt) (k:=k) hv hc (by simpa[hv,hc]using hbad));obtain⟨j,hj,rfl,hu1,jK,hpt⟩:=St.wL hc;rw[jK]at hc HC hbad;have hok:=hF.ok _ hc;have OA:=sO ps j hj;have htot:=hok.bc;have hle:=hok.le;have hlen:=hok.len;generalize D ps[j].2.2=R at hc HC hbad hok htot hle hlen;generalize St.fh D S (St.bj fmt) fmt ps (j:Int) rs ts=RR at *;obtain⟨f,cuts,tt,er⟩:=R;simp only at hc hbad htot hle hlen;subst hc;clear hok jK hpt hu1 h hB hF;go_enter Tryz.func16,Tryz.ntmps16;go_wp2_with fail;refine(HV.out _ uZ).mono ?_;rintro e w1 ⟨rfl,hu1⟩;have hd1:=(Hd.start w fmt A n c).ai hu1;have a0:=hd1.xP;have a1:=hd1.Gz;haveI l0:=hd1.l0;haveI l1:=hd1.l1;haveI l2:=hd1.l2;have xz:=aa hd1;clear hd1 hu1;go_wp2_with fail;refine(HC.out _ xz.out.u).mono ?_;rintro e w2 ⟨A2,c2,rfl,hI,hc2,hc3,hu2⟩;have HI:=aa hI;have hd2:=xz.out.ai hu2;have z0:=hd2.vh;have z1:=hd2.vi;have r0:=hd2.bB;have r1:=hd2.xQ;have q0:=hd2.f10;have q1:=hd2.f11;haveI l0:=hd2.l0;haveI l1:=hd2.l1;haveI l2:=hd2.l2;have cC:=aa hd2;clear hd2 hu2 a0 a1 hI
   by_cases hmm:m2=m
   ·subst hmm;have hf:=aa (show St.eI (St.ay f) 0 rs=false by
     rcases hbad with hb|hb|hb|hb
     ·exact absurd hv hb
     ·exact absurd rfl hb
     ·omega
     exact hb)
    clear hbad;go_wp2_with fail;refine(kx A2 f.length c2 f w2 rfl HI.out (by omega) (by omega)).mono ?_;rintro e w3 ⟨rfl,hu3⟩;have u3:=aa (cC.out.ai hu3);clear hu3;go_wp2_with fail;refine(HA.out _ u3.out.u _).mono ?_;rintro e w4 ⟨rfl,a6⟩;have lJ:=u3.out.ai a6;have z0:=lJ.vh;have z1:=lJ.vi;have r0:=lJ.bB;have r1:=lJ.xQ;have q0:=lJ.f10;have q1:=lJ.f11;haveI l0:=lJ.l0;haveI l1:=lJ.l1;haveI l2:=lJ.l2;have K9:=aa lJ;clear lJ a6;rw[hf.out];go_wp2;refine bodyPost_ret (v:=UR #[.agg #[UM US 0,UO UW 0 0],UM US 1]) ?_ rfl ?_
    ·simp[results,Tryz.results16,go_sem,r0,r1]
    exact gG.kT hR.out (K9.out.set _ _)
   have z2:((m2:Int) != (m:Int))=true:=by simp;omega
   clear hbad;go_wp2;refine bodyPost_ret (v:=UR #[.agg #[UM US 0,UO UW 0 0],UM US 1]) ?_ rfl ?_
   ·simp[results,Tryz.results16,go_sem,r0,r1]
   exact gG.kT hR.out (cC.out.set _ _)
  have hR:=aa (St.MS (E:=St.bj fmt) (fmt:=fmt) (rs:=rs) (ts:=ts) hv hc);generalize St.bL D ps k=R at *;generalize St.fh D S (St.bj fmt) fmt ps k rs ts=RR at *;obtain⟨f,cuts,tt,er⟩:=R;simp only at hc hR;have z5:(er==0)=false:=by simpa using hc
  have z6:(er != 0)=true:=by simpa using hc
  clear hbad hF h hB hc;go_enter Tryz.func16,Tryz.ntmps16;go_wp2_with fail;refine(HV.out _ uZ).mono ?_;rintro e w1 ⟨rfl,hu1⟩;have hd1:=(Hd.start w fmt A n c).ai hu1;have a0:=hd1.xP;have a1:=hd1.Gz;haveI l0:=hd1.l0;haveI l1:=hd1.l1;haveI l2:=hd1.l2;have xz:=aa hd1;clear hd1 hu1;go_wp2_with fail;refine(HC.out _ xz.out.u).mono ?_;rintro e w2 ⟨A2,c2,rfl,hI,hc2,hc3,hu2⟩;have hd2:=xz.out.ai hu2;have z0:=hd2.vh;have z1:=hd2.vi;have r0:=hd2.bB;have r1:=hd2.xQ;have q0:=hd2.f10;have q1:=hd2.f11;haveI l0:=hd2.l0;haveI l1:=hd2.l1;haveI l2:=hd2.l2;have cC:=aa hd2;clear hd2 hu2 a0 a1 hI;simp only;go_wp2;refine bodyPost_ret (v:=UR #[.agg #[UM US 0,UO UW 0 0],UM US er]) ?_ rfl ?_
  ·simp[results,Tryz.results16,go_sem,r0,r1]
  exact gG.kT hR.out (cC.out.set _ _)
 have hR:=aa (St.MU (D:=D) (E:=St.bj fmt) (fmt:=fmt) (k:=k) (rs:=rs) (ts:=ts) hv);generalize St.fh D S (St.bj fmt) fmt ps k rs ts=RR at *;generalize St.fA S ps=vv at *;have z5:(vv==0)=false:=by simpa using hv
 have z6:(vv != 0)=true:=by simpa using hv
 clear hbad hF h hB hv;go_enter Tryz.func16,Tryz.ntmps16;go_wp2_with fail;refine(HV.out _ uZ).mono ?_;rintro e w1 ⟨rfl,hu1⟩;have hd2:=(Hd.start w fmt A n c).ai hu1;have z0:=hd2.vh;have z1:=hd2.vi;have r0:=hd2.bB;have r1:=hd2.xQ;have q0:=hd2.f10;have q1:=hd2.f11;haveI l0:=hd2.l0;haveI l1:=hd2.l1;haveI l2:=hd2.l2;have cC:=aa hd2;clear hd2 hu1;go_wp2;refine bodyPost_ret (v:=UR #[.agg #[UM US 0,UO UW 0 0],UM US vv]) ?_ rfl ?_
 ·simp[results,Tryz.results16,go_sem,r0,r1]
 exact gG.kT hR.out (cC.out.set _ _)
end
end
section
section
variable {fmt:Int} {D:List UInt8->St.gg} {S:List UInt8->List St.Pt × Nat × Int}
def Gt(w w5:UY)(A:Option Addr)(n c:Nat)(fmt:Int)(raw:List UInt8)(cuts:List Nat)(L:Nat)(rs:List (Int × Int))(ts:List (List St.It))(OS wj IH:Value)(wr:UY):Prop:=
 ∃(i a x:Nat) (sB:ByteArray),i<=rs.length/\IH=UM US i/\wj=UM US a/\OS=UN sB/\a<=cuts.getD x 0/\x<=L/\St.eI L x (rs.drop i)=true/\sB.size<=2000000*i /\
  St.iW (St.bj fmt) raw cuts 0 [] rs ts=St.iW (St.bj fmt) raw cuts a sB.1.1 (rs.drop i) (ts.drop i)/\Hd w wr fmt A n c/\ac w5 wr
def wC(w w9:UY)(fmt:Int)(A:Option Addr)(n c:Nat)(ps:List St.Pt)(OT:Value)(W:UY):Prop:=
 ∃(gd g cap:Nat) (cur:Array Value),OT=UQ (UX ⟨gd,0,UW⟩)/\w9.1.size<=gd/\w9.1.size<=g/\gd≠g/\W.1[gd]?=UX (UT #[UM US fmt,UO (UX ⟨g,0,UW⟩) n cap] 25) /\
  W.1[g]?=UX (UT cur 64)/\cur.size=cap*3/\n<=cap/\cap<=9223372036854775807/\cur.toList.take (n*3)=bW ps/\Hd w W fmt A n c/\ac w9 W
theorem zo(ps:List St.Pt)(k:Nat)(s:List UInt8)(h:k<ps.length):bW (St.dI ps k s)=(bW ps).set (k*3+2) (UN ⟨s.toArray⟩):=by
 induction ps generalizing k with
 | nil=>simp at h
 | cons x ps ih=>
  match k,h with
  | 0,_=>rfl
  | k+1,h=>
   have e:(k+1)*3+2=(k*3+2)+3:=by omega
   rw[e];have:=ih k (by simpa using h)
   show([Value.bool x.1,UN ⟨x.2.1.toArray⟩,UN ⟨x.2.2.toArray⟩]++bW (St.dI ps k s))=_
   rw[this];rfl
theorem BK{w:UY}{B e size n:Nat}{v:Value}{xs:List Value}(h:w.ownsRow B e size v n xs)(h0:0<n):∃g cap,v=UO (UX ⟨g,0,UW⟩) n cap/\B<=g/\g<w.1.size/\w.ownsRow B e size (UO (UX ⟨g,0,UW⟩) n cap) n xs:=by
 have h':=h;rcases h.2 with⟨_,e2⟩|⟨g,cap,cur,rfl,hb,hg,_⟩
 ·omega
 exact⟨g,cap,rfl,hb,ae hg,h'⟩
theorem ED{w w9 kC:UY}{A:Option Addr}{n c B g cap:Nat}{ps:List St.Pt}(hd:Hd w w9 fmt A n c)(ho:kC.ownsRow B 64 3 (UO (UX ⟨g,0,UW⟩) n cap) n (bW ps))(hB:w9.1.size<=B)(u:ac w9 kC)(h0:0<n) :
  wC w w9 fmt A n c ps (UQ (UX ⟨kC.1.size,0,UW⟩)) (kC.alloc (UT #[UM US fmt,UO (UX ⟨g,0,UW⟩) n cap] 25)):=by
 rcases ho.2 with⟨_,e2⟩|⟨g',cap',cur,he,hb,hg,h1,h2,h3,h4⟩
 ·omega
 cases he;have hlt:=ae hg;have u2:=(ac.refl kC).alloc (UT #[UM US fmt,UO (UX ⟨g,0,UW⟩) n cap] 25);exact⟨_,g,cap,cur,rfl,u.size,by omega,by omega,heap_alloc_new _ _,(u2.below.block g hlt).trans hg,h3,h1,by unfold maxLen at h2;omega,h4,hd.ai (u.trans u2),u.trans u2⟩
theorem Cr{w w9 kC:UY}{A:Option Addr}{n c B g cap:Nat}{ps:List St.Pt}(hd:Hd w w9 fmt A n c)(ho:kC.ownsRow B 64 3 (UO (UX ⟨g,0,UW⟩) n cap) n (bW ps))(hB:w9.1.size+1<=B)(u:ac (w9.alloc (UT #[UM US 0,UO UW 0 0] 25)) kC)(h0:0<n) :
  wC w w9 fmt A n c ps (UQ (UX ⟨w9.1.size,0,UW⟩)) ((kC.setCell ⟨w9.1.size,0,UW⟩ (UM US fmt)).setCell ⟨w9.1.size,1,UW⟩ (UO (UX ⟨g,0,UW⟩) n cap)):=by
 rcases ho.2 with⟨_,e2⟩|⟨g',cap',cur,he,hb,hg,h1,h2,h3,h4⟩
 ·omega
 cases he;have hgd:=(u.below.block w9.1.size (by simp)).trans (heap_alloc_new w9 (UT #[UM US 0,UO UW 0 0] 25));have e1:=heap_setCell_same _ _ 0 _ _ (UM US fmt) hgd;have e2:=heap_setCell_same _ _ 1 _ _ (UO (UX ⟨g,0,UW⟩) n cap) e1;have u9:ac w9 kC:=((ac.refl w9).alloc _).trans u;have u2:ac w9 ((kC.setCell ⟨w9.1.size,0,UW⟩ (UM US fmt)).setCell ⟨w9.1.size,1,UW⟩ (UO (UX ⟨g,0,UW⟩) n cap)):=(u9.setCell (p:=⟨w9.1.size,0,UW⟩) (Nat.le_refl _) _).setCell (p:=⟨w9.1.size,1,UW⟩) (Nat.le_refl _) _;refine⟨_,g,cap,cur,rfl,Nat.le_refl _,by omega,by omega,e2,?_,h3,h1,by unfold maxLen at h2;omega,h4,hd.ai u2,u2⟩;rw[heap_setCell_other _ _ _ _ (show g≠(⟨w9.1.size,1,UW⟩:Addr).block by simp only;omega),heap_setCell_other _ _ _ _ (show g≠(⟨w9.1.size,0,UW⟩:Addr).block by simp only;omega)];exact hg
theorem Kv(ps:List St.Pt)(k:Nat)(s:List UInt8):(St.b6 (St.dI ps k s)).length<=(St.b6 ps).length+s.length:=by
 induction ps generalizing k with
 | nil=>simp[St.dI,St.b6]
 | cons x ps ih=>
  match k with
  | 0=>simp[St.dI,St.b6];omega
  | k+1=>
   have:=ih k
   have e1:St.b6 (St.dI (x :: ps) (k+1) s)=x.2.2++St.b6 (St.dI ps k s):=rfl;have e2:St.b6 (x :: ps)=x.2.2++St.b6 ps:=rfl;rw[e1,e2,List.length_append,List.length_append];omega
theorem rv(ps:List St.Pt)(k:Nat)(s:List UInt8):(St.dI ps k s).length=ps.length:=by unfold St.dI;simp
theorem Cs{W:UY}{g cap n:Nat}{cur:Array Value}{ps:List St.Pt}{k:Nat}{s:List UInt8}(hn:ps.length=n)(hk:k<n)(hg:W.1[g]?=UX (UT cur 64))(hs:cur.size=cap*3)(h1:n<=cap)(h2:cap<=9223372036854775807)(h3:cur.toList.take (n*3)=bW ps) :
  bn (W.setCell ⟨g,k*3+2,UW⟩ (UN ⟨s.toArray⟩)) (UX ⟨g,0,UW⟩) (St.dI ps k s):=by
 have e1:=heap_setCell_same _ _ (k*3+2) _ _ (UN ⟨s.toArray⟩) hg;refine po (B:=g) (n:=n) (c:=cap) ⟨by rw[rJ,rv,hn],.inr ⟨g,cap,_,rfl,Nat.le_refl _,e1,h1,by unfold maxLen;omega,by simpa using hs,?_⟩⟩ (by rw[rv,hn]);rw[zo _ _ _ (by omega),<-h3,Array.toList_setIfInBounds,List.take_set]
end
end
section
section
variable {fmt:Int} {D:List UInt8->St.gg} {S:List UInt8->List St.Pt × Nat × Int}
theorem GJ(A B C:Option Addr)(n c m d e0 j:Nat)(ps:List St.Pt)(rs:List (Int × Int))(ts:List (List St.It))(w:UY)(hF:l7 w fmt D S)(hn:ps.length=n)(hnc:n<=c)(dz:c<=9223372036854775807)(hm:rs.length=m)(hm2:ts.length=m)(h:bn w A ps)(hB:fB w B rs)(hC:iy w C ts)(hl:n<=1000000)(hr:(St.b6 ps).length<=1000000)(fj:m<=20)
  (hts:∀t∈ts,t.length<=1100/\bc t<=20000000) (hen:∀t∈ts,(St.bj fmt t).1.length<=1000000) (hj:j<ps.length) (hv:St.fA S ps=0) (hc:(St.bL D ps j).2.2.2=0) (jK:St.bL D ps j=D ps[j].2.2) (hpt:St.fO ps j=ps[j]) (ng:St.eI (St.ay (St.bL D ps j).1) 0 rs=true) :
  Calls Tryz.prog 16 #[.agg #[UM US fmt,UO A n c],UM US j,UO B m d,UO C m e0] w (gG (St.fh D S (St.bj fmt) fmt ps j rs ts) w):=by
 have HV:=aa (λW (hW:ac w W)=>vo A n c ps W (hF.ai hW) hn hnc dz (h.ai hW) (by omega) (by omega));have HC:=aa (λW (hW:ac w W)=>xT A n c ps j W (hF.ai hW) hn (h.ai hW) (by omega) (by omega));have HA:=aa (λW (hW:ac w W) (L:Nat)=>Ay B m d L rs W hm (hB.ai hW) (by omega));have Ds:=St.MT (E:=St.bj fmt) (fmt:=fmt) (k:=j) hv hc (by omega:ts.length=rs.length) ng;rw[hv]at HV;rw[jK]at hc HC ng Ds;rw[hpt]at Ds;have OA:=sO ps j hj;obtain⟨b,off,rfl,hb,hcl⟩:=h (by omega);have Ow:=(hcl j hj).2.2;have jt:=aa (λW (hW:ac w W)=>FP b off n c ps W hn (Nat.lt_of_lt_of_le hb hW.size) (λi hi=>⟨(hW.cell hb).trans (hcl i hi).1,(hW.cell hb).trans (hcl i hi).2.1,(hW.cell hb).trans (hcl i hi).2.2⟩) (by omega));have hok:=hF.ok _ hc;obtain⟨ik,hrw'⟩:∃ik:ByteArray,ik=⟨ps[j].2.2.toArray⟩:=⟨_,rfl⟩;have hrl:ik.1.1=ps[j].2.2:=by rw[hrw']
 have Dz:ik.size=ps[j].2.2.length:=by rw[<-hrl,St.aC]
 rw[<-hrw']at Ow;have xy:=aa (λW (hW:ac w W)=>hF.cut ik W hW (by omega));have Gd:=aa (λ(s:ByteArray) W (hW:ac w W) (hs:s.size<=1000000000)=>hF.dec s W hW hs);have rU:=aa hF.enc;have HH:=aa h;have HB:=aa hB;have uY:=aa hC;rw[hrl]at xy;generalize ov:ps[j].2.2=raw at *;generalize D raw=R at hc HC ng Ds hok xy;obtain⟨f,cuts,tt,er⟩:=R;have hcut:=hok.cl;have htot:=hok.bc;have hle:=hok.le;have hlen:=hok.len;have hmono:=hok.mono;have htop:=hok.top;simp only at hc hcut htot hle hlen hmono htop ng xy Ds;subst hc;generalize St.fh D S (St.bj fmt) fmt ps (j:Int) rs ts=RR at *;have Nt:=aa Ds;have xK:=aa hts;have jv:=aa hen;have Lc:=aa hmono;have Li:=aa htop;have zR:=aa ng;have HN:=aa hn;have HM:=aa hm;have xE:=aa hm2;have Lh:=aa hrl;have So:=aa hcl;have u7:=aa Ow;have Sd:=aa hb;clear hok jK hpt hF Ds hts hen hmono htop ng hrw' hB hC h hcl Ow;go_enter Tryz.func16,Tryz.ntmps16;go_wp2_with fail;refine(HV.out _ uZ).mono ?_;rintro e w1 ⟨rfl,hu1⟩;have hd1:=(Hd.start w fmt (UX ⟨b,off,UW⟩) n c).ai hu1;have a0:=hd1.xP;have a1:=hd1.Gz;haveI l0:=hd1.l0;have xz:=aa hd1;clear hd1 hu1;go_wp2_with fail;refine(HC.out _ xz.out.u).mono ?_;rintro e w2 ⟨A2,c2,rfl,hI,hc2,hc3,hu2⟩;have HI:=aa hI;have cC:=aa (xz.out.ai hu2);clear hu2 a0 a1 hI l0;simp only;go_wp2_with fail;refine(kx A2 f.length c2 f w2 rfl HI.out (by omega) (by omega)).mono ?_;rintro e w3 ⟨rfl,hu3⟩;have u3:=aa (cC.out.ai hu3);have bm:=aa hu3;clear hu3;go_wp2_with fail;refine(HA.out _ u3.out.u _).mono ?_;rintro e w4 ⟨rfl,a6⟩;have lJ:=u3.out.ai a6;have fE:=aa (bm.out.trans a6);have a0:=lJ.xP;have a1:=lJ.Gz;haveI l0:=lJ.l0;have p0:=(lJ.u.cell (p:=⟨b,off+j*3+2,UW⟩) Sd.out).trans u7.out;haveI lb:af b w4:=af.of (Nat.lt_of_lt_of_le hb lJ.u.size);have K9:=aa lJ;have y1:(j:Int)<(n:Int):=by omega
 have y2:¬(j:Int)<0:=by omega
 clear lJ a6;rw[zR.out];go_wp2_with fail;refine(xy.out _ K9.out.u).mono ?_;rintro e w5 ⟨A5,c5,rfl,NY,RE,hc52,bo⟩;have Su:=aa NY;have Si:=aa (K9.out.ai bo);have cL:=aa (fE.out.trans bo);clear NY bo a0 a1 p0 lb l0;have TP:=hcut;generalize NY:cuts.length=N5 at hcut |- RE;obtain⟨L,hL⟩:∃L,L=St.ay f:=⟨_,rfl⟩;rw[<-hL]at hcut;have JV:=zR.out;rw[<-hL]at JV;have Eh:=aa JV;have NS:A2=UW->True:=λ_=>trivial
 clear JV HV HC HA xy HH So u7 hv ov NS Lh zR;go_wp2_with fail;go_loopw [16,17,73] (λOS wj IH wr=>Gt w w5 (UX ⟨b,off,UW⟩) n c fmt raw cuts L rs ts OS wj IH wr) (λ_ _ IH _=>m+1-(intOf IH).toNat)
 case atStart=>exact⟨0,0,0,⟨#[]⟩,by omega,rfl,rfl,rfl,by omega,by omega,Eh.out,Nat.le_refl 0,by simp,Si.out,ac.refl _⟩
 case round=>
  obtain⟨i,a,x,sB,hi,rfl,rfl,rfl,hax,hxL,has,hsz,hen,hd,hu⟩:=hrel;have HU:=aa hu;have HD:=aa hd;have Ej:=aa hen;have hM:=HM.out;have Uj:=xE.out
  have Uo:cuts.getD x 0<=raw.length:=by
   rw[List.getD_eq_getElem?_getD,List.getElem?_eq_getElem (show x<cuts.length by omega),Option.getD_some];exact Li.out _ (List.getElem_mem _)
  have a0:=hd.xP;haveI l0:=hd.l0
  by_cases hlt:i<m
  ·have aS:i<rs.length:=by omega
   have fM:i<ts.length:=by omega
   obtain⟨b2,off2,rfl,hb2,hc2'⟩:=(HB.out.ai hd.u) (by omega);obtain⟨c0,c1⟩:=hc2' i aS;obtain⟨b3,off3,rfl,hb3,hc3'⟩:=(uY.out.ai hd.u) (by omega);obtain⟨At,ct,g0,gI,gn,gc,gA⟩:=hc3' i fM;obtain⟨b5,off5,rfl,bV,hc5'⟩:=(Su.out.ai hu) (by omega);rw[ud _ _ rs i aS]at has;have gM:=St.JC (St.bj fmt) raw cuts a sB.1.1 rs ts i aS fM;have fF:=xK.out ts[i] (List.getElem_mem fM);have eP:=jv.out ts[i] (List.getElem_mem fM);generalize rs[i]=r at c0 c1 has gM;generalize ts[i]=t at g0 gI gn gM fF eP;obtain⟨p,q⟩:=r;simp only at c0 c1 has gM
   split at has
   ·cases has
   rename_i hcond
   obtain⟨p',rfl⟩:∃p':Nat,p=p':=⟨p.toNat,by omega⟩;obtain⟨q',rfl⟩:∃q':Nat,q=q':=⟨q.toNat,by omega⟩;have hap:x<=p':=by omega
   have pc:p'<=q':=by omega
   have Oy:q'<=L:=by omega
   simp only[Int.toNat_natCast]at gM;have m1:=St.DI Lc.out hap (show p'<cuts.length by omega);have m2:=St.DI Lc.out pc (show q'<cuts.length by omega);have AS:=hc5' p' (by omega);have Hj:=hc5' q' (by omega);have gp:cuts.getD p' 0=cuts[p']:=by rw[List.getD_eq_getElem?_getD,List.getElem?_eq_getElem (show p'<cuts.length by omega),Option.getD_some]
   have gq:cuts.getD q' 0=cuts[q']:=by rw[List.getD_eq_getElem?_getD,List.getElem?_eq_getElem (show q'<cuts.length by omega),Option.getD_some]
   have tq:=Li.out _ (List.getElem_mem (show q'<cuts.length by omega));rw[<-gp]at AS;rw[<-gq]at Hj tq;have G5:=aa (λW (hW:ac wr W)=>rU.out At t.length ct t W (hd.u.trans hW) rfl gn gc (gI.ai hW) (by omega) (by omega));generalize St.bj fmt t=Et at gM eP G5;obtain⟨tl,te⟩:=Et;simp only at gM eP G5;have htl:(⟨tl.toArray⟩:ByteArray).1.1=tl:=by simp
   have vJ:(⟨tl.toArray⟩:ByteArray).size=tl.length:=by show tl.toArray.size=_;simp
   generalize(⟨tl.toArray⟩:ByteArray)=tB at G5 htl vJ;obtain⟨cp,hcpe⟩:∃cp,cp=cuts.getD p' 0:=⟨_,rfl⟩;obtain⟨cq,hcqe⟩:∃cq,cq=cuts.getD q' 0:=⟨_,rfl⟩;rw[<-hcpe]at AS gM m1 m2;have LB:=hcqe;rw[<-hcqe]at Hj tq gM m2;haveI UB:af b2 wr:=af.of hb2;haveI UC:af b3 wr:=af.of hb3;haveI UD:af b5 wr:=af.of bV;have z1:(i:Int)<(m:Int):=by omega
   have z2:¬(i:Int)<0:=by omega
   have z3:(p':Int)<(N5:Int):=by omega
   have z4:(q':Int)<(N5:Int):=by omega
   have z5:(a:Int)<=(cp:Int):=by omega
   have z6:(cp:Int)<=(ik.size:Int):=by omega
   have z7:(0:Int)<=(a:Int):=by omega
   have T9:=aa gI;clear hc2' hc3' hc5' hcond gp gq hu hd hen gI hcpe Lc Li
   by_cases hte:te=0
   ·subst hte;have hfin:∀W,ac wr W->Gt w w5 (UX ⟨b,off,UW⟩) n c fmt raw cuts L rs ts (UN (sB++(ik.extract a cp++tB))) (UM US (cq:Int)) (UM US ((i:Int)+1)) W:=λW hW=>
     ⟨i+1,cq,q',_,by omega,congrArg (UM US) (by omega),rfl,rfl,by rw[hcqe];exact Nat.le_refl _,Oy,has,by rw[ByteArray.size_append,ByteArray.size_append,ByteArray.size_extract];omega,by
      rw[Ej.out,gM,if_neg (by simp),ByteArray.data_append,Array.toList_append,ByteArray.data_append,Array.toList_append,eJ,htl,hrl],HD.out.ai hW,HU.out.trans hW⟩
    have dr:=aa hfin;clear hfin gM has hcqe LB;go_wp2_with fail
    first|refine aM (by kernel_rfl) (by kernel_rfl) ?_|refine aQ (by kernel_rfl) (by kernel_rfl) ?_
    repeat (go_big_quiet_step (first|((go_at_call 50;exact Calls.dM (G5.out _ uZ)))))
    refine wpQuiet_nil ?_;rintro _ ⟨X,rfl⟩;go_wp2_with fail;exact⟨dr.out _ uZ,by simp[intOf];omega⟩
   have hR:=aa (show RR=((0,[]),te)by rw[Nt.out,Ej.out,gM,if_pos hte]);have z8:(te==0)=false:=by simpa using hte
   have z9:(te != 0)=true:=by simpa using hte
   clear gM has hcqe LB hte;go_wp2_with fail
   first|refine aM (by kernel_rfl) (by kernel_rfl) ?_|refine aQ (by kernel_rfl) (by kernel_rfl) ?_
   repeat (go_big_quiet_step (first|((go_at_call 50;exact Calls.dM (G5.out _ uZ)))))
   refine wpQuiet_nil ?_;rintro _ ⟨X,rfl⟩;have om:=HD.out.ai (uZ:ac wr (under (wr.alloc (UT #[UM US (p':Int),UM US (q':Int)] 33)) X));have y0:=om.vh;have y3:=om.vi;have r0:=om.bB;have r1:=om.xQ;have q0:=om.f10;have q1:=om.f11;haveI l1:=om.l1;haveI l2:=om.l2;have Ni:=aa om;clear om;generalize under (wr.alloc (UT #[UM US (p':Int),UM US (q':Int)] 33)) X=w6 at *;go_wp2;refine bodyPost_ret (v:=UR #[.agg #[UM US 0,UO UW 0 0],UM US te]) ?_ rfl ?_
   ·simp[results,Tryz.results16,go_sem,r0,r1]
   exact gG.kT hR.out (Ni.out.set _ _)
  have hkn:i=m:=by omega
  subst hkn;have qf:=Nt.out;rw[Ej.out,List.drop_of_length_le (by omega),List.drop_of_length_le (by omega)]at qf;simp only[St.iW,Int.toNat_natCast]at qf
  have QU:(sB++ik.extract a raw.length).1.1=sB.1.1++raw.drop a:=by
   rw[ByteArray.data_append,Array.toList_append,eJ,hrl];unfold St.aY;rw[List.take_of_length_le (by omega)]
  have Uy:(sB++ik.extract a raw.length).size<=200000000:=by rw[ByteArray.size_append,ByteArray.size_extract];omega
  rw[<-QU]at qf;have QC:=Gd.out (sB++ik.extract a raw.length);have z5:(a:Int)<=(ik.size:Int):=by omega
  have z7:(0:Int)<=(a:Int):=by omega
  have Re:=aa QC;have HP:=aa (λW (hW:ac wr W)=>GK A2 B C f.length c2 i d e0 f rs ts W rfl hm hm2 (HI.out.ai ((cL.out.trans hu).trans hW)) (HB.out.ai (hd.u.trans hW)) (uY.out.ai (hd.u.trans hW)) hlen (by omega) fj (λt ht=>⟨(xK.out t ht).1,by have:=(xK.out t ht).2;omega⟩) (by rw[<-hL];exact Eh.out));have Qn:=aa qf;clear qf QC QU hen hax has hlt Nt rU Ej HB uY Eh xK jv Lc Li hu;go_wp2_with fail;generalize sB++ik.extract a raw.length=sF at *;refine(Re.out _ hd.u (by omega)).mono ?_;rintro e w6 ⟨A6,c6,rfl,hI6,JY,hc62,eZ⟩;have om:=hd.ai eZ;have Ni:=aa om;have eg:=aa eZ;have Nl:=aa hI6;have Dr:=Qn.out;unfold St.vZ at Dr;have hsl:sF.1.1.length=sF.size:=St.aC sF;generalize D sF.1.1=R6 at Dr Nl JY |-;obtain⟨g6,cu6,t6,e6⟩:=R6;simp only at Dr Nl JY |-;have Ad:=aa Dr;clear Dr Qn hsz a0 hI6 eZ hd l0
  by_cases Hl:e6=0
  ·subst Hl;clear om;go_wp2_with fail;refine(HP.out _ eg.out).mono ?_;rintro e w7 ⟨v7,rfl,dH,hl7,ht7,cf⟩;obtain⟨A7,c7,rfl,hc71,hc72,_⟩:=aT dH;have Qd:=aa (aX dH rfl);have lZ:=aa cf;have Sj:=aa (Ni.out.ai cf);generalize St.fw f rs ts=P7 at *;clear dH cf HP;go_wp2_with fail;refine(Fj A7 P7.length c7 P7 w7 rfl Qd.out (by omega) (by omega)).mono ?_;rintro e w8 ⟨v8,rfl,Dv,oz⟩;obtain⟨A8,c8,rfl,hc81,hc82,_⟩:=aT Dv;have Sp:=aa (aX Dv rfl);have nr:=aa (lZ.out.trans oz);have Sk:=aa (Sj.out.ai oz);generalize St.mZ P7=P8 at *;have RF:c8<=9223372036854775807:=by unfold maxLen at hc82;omega
   clear Dv oz Qd;go_wp2_with fail;refine(H9 A6 A8 g6.length P8.length c6 c8 g6 P8 w8 rfl rfl JY hc81 hc62 RF (Nl.out.ai nr.out) Sp.out).mono ?_;rintro e w9 ⟨rfl,lj⟩;have gC:=Sk.out.ai lj;clear lj;obtain⟨bb,hbb⟩:∃bb,bb=decide (g6=P8):=⟨_,rfl⟩;rw[<-hbb];cases bb
   ·have hR:=aa (show RR=((0,[]),11)by rw[Ad.out,if_neg (by simp),if_pos (of_decide_eq_false hbb.symm)]);clear hbb;have y0:=gC.vh;have y3:=gC.vi;have r0:=gC.bB;have r1:=gC.xQ;have q0:=gC.f10;have q1:=gC.f11;haveI l1:=gC.l1;haveI l2:=gC.l2;have Gd:=aa gC;clear gC;go_wp2;refine bodyPost_ret (v:=UR #[.agg #[UM US 0,UO UW 0 0],UM US (11)]) ?_ rfl ?_
    ·simp[results,Tryz.results16,go_sem,r0,r1]
    exact gG.kT hR.out (Gd.out.set _ _)
   have hR:=aa (show RR=if 65536<(St.b6 (St.dI ps j sF.1.1)).length then((0,[]),3)else((fmt,St.dI ps j sF.1.1),0)by rw[Ad.out,if_neg (by simp),if_neg (by simpa using of_decide_eq_true hbb.symm)]);have a0:=gC.xP;have a1:=gC.Gz;have y0:=gC.vh;have y3:=gC.vi;haveI l0:=gC.l0;haveI l1:=gC.l1;haveI l2:=gC.l2;have zT:=aa gC;have hn0:0<n:=by omega
   clear hbb gC;go_wp2_with fail;go_cut [23]from 24 (λOT wx=>wC w w9 fmt (UX ⟨b,off,UW⟩) n c ps OT wx)
   case first=>
    go_region_law (first
     | (refine fH rfl 55 #[UO (UX ⟨b,off,UW⟩) n c] _ (jt.out (w9.alloc (UT #[UM US 0,UO UW 0 0] 25)).drew (zT.out.u.trans uZ)) ?_ ?_;(· go_simp;done);rintro e kC ⟨v10,rfl,lN,hu10⟩;obtain⟨g10,k10,rfl,hg10,hgl10,hoo10⟩:=BK lN hn0;have J9:w9.1.size+1<=(w9.alloc (UT #[UM US 0,UO UW 0 0] 25)).drew.1.size:=(by simp);have iY:=(hu10.below.block w9.1.size (by simp)).trans (heap_alloc_new w9 (UT #[UM US 0,UO UW 0 0] 25));have d0:kC.cell? ⟨w9.1.size,0,UW⟩=UX (UM US 0):=ak iY 0;have d1:kC.cell? ⟨w9.1.size,1,UW⟩=UX (UO UW 0 0):=ak iY 1;have f0:kC.frozen? ⟨w9.1.size,0,UW⟩=false:=bk iY 0;have f1:kC.frozen? ⟨w9.1.size,1,UW⟩=false:=bk iY 1;have AT:=zT.out.ai (ac.trans uZ hu10);have b0:=AT.xP;haveI k0:=AT.l0;haveI k1:af w9.1.size kC:=af.of (ae iY);refine⟨_,rfl,?_⟩)
     | (refine fH rfl 55 #[UO (UX ⟨b,off,UW⟩) n c] _ (jt.out w9.drew (zT.out.u.trans uZ)) ?_ ?_;(· go_simp;done);rintro e kC ⟨v10,rfl,lN,hu10⟩;obtain⟨g10,k10,rfl,hg10,hgl10,hoo10⟩:=BK lN hn0;have J9:w9.1.size<=w9.drew.1.size:=(by simp);have AT:=zT.out.ai (ac.trans uZ hu10);have b0:=AT.xP;haveI k0:=AT.l0;refine⟨_,rfl,?_⟩))
    all_goals
     go_wp2_with fail;go_meet
     first
      | exact Cr zT.out hoo10 J9 (ac.trans uZ hu10) hn0
      | exact ED zT.out hoo10 J9 (ac.trans uZ hu10) hn0
   case rest=>
    obtain⟨gd,g,cap,cur,rfl,hgd,vB,hne,hgdh,hgh,hcs,hncap,hcap,hct,ey,Bf⟩:=hcut;have mT:=Kv ps j sF.1.1;have hsl:=rv ps j sF.1.1;have hp:=Cs (s:=sF.1.1) hn (by omega:j<n) hgh hcs hncap hcap hct;rw[be]at hp;have km:=Bf.setCell (p:=⟨g,j*3+2,UW⟩) vB (UN sF);have Dt:=(heap_setCell_other wc ⟨g,j*3+2,UW⟩ gd (UN sF) hne).trans hgdh;have hds:=zT.out.ai km;have d0:wc.cell? ⟨gd,0,UW⟩=UX (UM US fmt):=ak hgdh 0;have d1:wc.cell? ⟨gd,1,UW⟩=UX (UO (UX ⟨g,0,UW⟩) n cap):=ak hgdh 1;have e2:wc.frozen? ⟨g,j*3+2,UW⟩=false:=bk hgh (j*3+2);obtain⟨v2,hv2⟩:∃v2,wc.cell? ⟨g,j*3+2,UW⟩=UX v2:=⟨_,(ak hgh (j*3+2)).trans (Array.getElem?_eq_getElem (by omega))⟩;have s0:(wc.setCell ⟨g,j*3+2,UW⟩ (UN sF)).cell? ⟨gd,0,UW⟩=UX (UM US fmt):=ak Dt 0;have s1:(wc.setCell ⟨g,j*3+2,UW⟩ (UN sF)).cell? ⟨gd,1,UW⟩=UX (UO (UX ⟨g,0,UW⟩) n cap):=ak Dt 1;haveI m0:af gd wc:=af.of (ae hgdh);haveI m1:af g wc:=af.of (ae hgh);have Sm:=aa hds;have Qk:=aa hp;have P9:=aa Dt;clear ey Bf km hds Dt hp hgdh hgh hct a0 a1 y0 y3 l0 l1 l2;go_wp2_with fail;generalize wc.setCell ⟨g,j*3+2,UW⟩ (UN sF)=w11 at *;refine(qJ fmt (UX ⟨g,0,UW⟩) n cap (St.dI ps j sF.1.1) w11 (by omega) Qk.out (by omega) (by omega)).mono ?_;rintro e O2 ⟨rfl,hu12⟩;have pL:=Sm.out.ai hu12;have E5:=(hu12.below.block gd (ae P9.out)).trans P9.out;have Rs:=aa (Qk.out.ai hu12);have t0:O2.cell? ⟨gd,0,UW⟩=UX (UM US fmt):=ak E5 0;have t1:O2.cell? ⟨gd,1,UW⟩=UX (UO (UX ⟨g,0,UW⟩) n cap):=ak E5 1;haveI m2:af gd O2:=af.of (ae E5);have hbz:(⟨(St.b6 (St.dI ps j sF.1.1)).toArray⟩:ByteArray).size=(St.b6 (St.dI ps j sF.1.1)).length:=by show(St.b6 (St.dI ps j sF.1.1)).toArray.size=_;simp
    generalize(⟨(St.b6 (St.dI ps j sF.1.1)).toArray⟩:ByteArray)=Qx at *;have Jg:=aa pL;have r0:=pL.bB;have r1:=pL.xQ;have q0:=pL.f10;have q1:=pL.f11;have y0:=pL.vh;have y3:=pL.vi;haveI l1:=pL.l1;haveI l2:=pL.l2;clear s0 s1 d0 d1 e2 hv2 hu12 E5 pL m0 m1
    by_cases hbig:65536<(St.b6 (St.dI ps j sF.1.1)).length
    ·have N0:=aa (show RR=((0,[]),3)by rw[hR.out,if_pos hbig]);have z1:(65536:Int)<(Qx.size:Int):=by omega
     clear hbz hbig hR;go_wp2;refine bodyPost_ret (v:=UR #[.agg #[UM US 0,UO UW 0 0],UM US 3]) ?_ rfl ?_
     ·simp[results,Tryz.results16,go_sem,r0,r1]
     exact gG.kT N0.out (Jg.out.set _ _)
    have N0:=aa (show RR=((fmt,St.dI ps j sF.1.1),0)by rw[hR.out,if_neg hbig]);have z1:¬(65536:Int)<(Qx.size:Int):=by omega
    have hE:=aa (λu v=>gQ Rs.out Jg.out.b1 u v);clear hbz hbig hR;go_wp2;refine bodyPost_ret (v:=UR #[.agg #[UM US fmt,UO (UX ⟨g,0,UW⟩) n cap],UM US 0]) ?_ rfl ?_
    ·simp[results,Tryz.results16,go_sem,r0,r1]
    rw[N0.out];exact⟨UX ⟨g,0,UW⟩,cap,by simp only;rw[hsl,hn],hE.out _ _,by simp only;omega,hcap,Jg.out.set _ _⟩
  have hR:=aa (show RR=((0,[]),e6)by rw[Ad.out,if_pos Hl]);have z8:(e6==0)=false:=by simpa using Hl
  have z9:(e6 != 0)=true:=by simpa using Hl
  have gC:=om;clear om Hl;have y0:=gC.vh;have y3:=gC.vi;have r0:=gC.bB;have r1:=gC.xQ;have q0:=gC.f10;have q1:=gC.f11;haveI l1:=gC.l1;haveI l2:=gC.l2;have Gd:=aa gC;clear gC;go_wp2;refine bodyPost_ret (v:=UR #[.agg #[UM US 0,UO UW 0 0],UM US (e6)]) ?_ rfl ?_
  ·simp[results,Tryz.results16,go_sem,r0,r1]
  exact gG.kT hR.out (Gd.out.set _ _)
end
end
section
variable {fmt:Int} {D:List UInt8->St.gg} {S:List UInt8->List St.Pt × Nat × Int}
theorem si(A B C:Option Addr)(n c m d m2 e0:Nat)(ps:List St.Pt)(k:Int)(rs:List (Int × Int))(ts:List (List St.It))(w:UY)(hF:l7 w fmt D S)(hn:ps.length=n)(hnc:n<=c)(dz:c<=9223372036854775807)(hm:rs.length=m)(hm2:ts.length=m2)(h:bn w A ps)(hB:fB w B rs)(hC:iy w C ts)(hl:n<=1000000)(hr:(St.b6 ps).length<=1000000)(fj:m<=20)
  (hts:∀t∈ts,t.length<=1100/\bc t<=20000000) (hen:∀t∈ts,(St.bj fmt t).1.length<=1000000) :
  Calls Tryz.prog 16 #[.agg #[UM US fmt,UO A n c],UM US k,UO B m d,UO C m2 e0] w (gG (St.fh D S (St.bj fmt) fmt ps k rs ts) w):=by
 by_cases hbad:St.fA S ps≠0\/(St.bL D ps k).2.2.2≠0\/ts.length≠rs.length\/St.eI (St.ay (St.bL D ps k).1) 0 rs=false
 ·exact EK A B C n c m d m2 e0 ps k rs ts w hF hn hnc dz hm hm2 h hB hl hr fj hbad
 have h1:St.fA S ps=0:=Decidable.byContradiction λe=>hbad (.inl e)
 have h2:(St.bL D ps k).2.2.2=0:=Decidable.byContradiction λe=>hbad (.inr (.inl e))
 have h3:ts.length=rs.length:=Decidable.byContradiction λe=>hbad (.inr (.inr (.inl e)))
 have h4:St.eI (St.ay (St.bL D ps k).1) 0 rs=true:=by
  cases hq:St.eI (St.ay (St.bL D ps k).1) 0 rs
  ·exact absurd (.inr (.inr (.inr hq))) hbad
  rfl
 obtain⟨j,hj,rfl,_,jK,hpt⟩:=St.wL h2;obtain rfl:m2=m:=by omega
 exact GJ A B C n c m2 d e0 j ps rs ts w hF hn hnc dz hm hm2 h hB hC hl hr fj hts hen hj h1 h2 jK hpt h4
end
