/- For document.Replace: its own blocks in memory, the cases of St.replD, and the errors. -/
import Derived.Test.YthoemdibbldndaaGreatDoorDcB
import Derived.Deep.CutRange
set_option linter.all false
set_option maxHeartbeats 0
set_option maxRecDepth 20000
open Go.Value renaming int->Yp,string->Yq,slice->Yr,pointer->Yt,tuple->Yu
open Go.IntKind renaming i64->Yv
open Go.Obj renaming cells->Yw
open Option renaming none->Yy,some->Yz
open Go renaming World->YA
namespace Go.Proofs.YthoemdibbldndaaGreatDoor
open Go.RowKit
section
namespace St
variable {D:List UInt8->gy} {S:List UInt8->List Pt × Nat × Int} {E:List It->List UInt8 × Int} {fmt:Int} {ps:List Pt} {k:Int} {rs:List (Int × Int)} {ts:List (List It)}
theorem PR(h:fP S ps≠0):eQ D S E fmt ps k rs ts=((0,[]),fP S ps):=by unfold eQ;rw[if_pos h]
theorem PP(h0:fP S ps=0)(h:(bQ D ps k).2.2.2≠0):eQ D S E fmt ps k rs ts=((0,[]),(bQ D ps k).2.2.2):=by
 unfold eQ;rw[if_neg (by simpa using h0),if_pos h]
theorem PO(h0:fP S ps=0)(h1:(bQ D ps k).2.2.2=0)(h:ts.length≠rs.length\/bV (aA (bQ D ps k).1) 0 rs=false):eQ D S E fmt ps k rs ts=((0,[]),1):=by
 unfold eQ;rw[if_neg (by simpa using h0),if_neg (by simpa using h1),if_pos h]
theorem PQ(h0:fP S ps=0)(h1:(bQ D ps k).2.2.2=0)(h:ts.length=rs.length)(h':bV (aA (bQ D ps k).1) 0 rs=true):eQ D S E fmt ps k rs ts=match l9 E (gx ps k).2.2 (bQ D ps k).2.1 0 [] rs ts with
  | .error e=>((0,[]),e)
  | .ok (s,at')=>Cp D fmt ps k.toNat (pF (cK (bQ D ps k).1 rs ts)) (s++(gx ps k).2.2.drop at'):=by
 unfold eQ;rw[if_neg (by simpa using h0),if_neg (by simpa using h1),if_neg (by simp[h,h'])];split<;>rename_i e<;>rw[e]
theorem zh(h:(bQ D ps k).2.2.2=0):∃(j:Nat) (hj:j<ps.length),k=j/\ps[j].1=true/\bQ D ps k=D ps[j].2.2/\gx ps k=ps[j]:=by
 by_cases hk:0<=k
 ·obtain⟨j,rfl⟩:∃j:Nat,k=j:=⟨k.toNat,by omega⟩;have hp:gx ps (j:Int)=(ps[j]?).getD (false,[],[]):=by unfold gx;rw[if_pos hk];simp
  by_cases hj:j<ps.length
  ·rw[List.getElem?_eq_getElem hj,Option.getD_some]at hp;unfold bQ at h
   split at h
   ·rename_i hu
    refine⟨j,hj,rfl,by rw[<-hp];exact hu,?_,hp⟩;unfold bQ;rw[if_pos hu,hp]
   cases h
  rw[List.getElem?_eq_none (by omega)]at hp;unfold bQ at h;rw[hp]at h;cases h
 have hp:gx ps k=(false,[],[]):=by unfold gx;rw[if_neg hk]
 unfold bQ at h;rw[hp]at h;cases h
theorem Mn(E:List It->List UInt8 × Int)(raw:List UInt8)(cuts:List Nat)(a:Nat)(s:List UInt8)(rs:List (Int × Int))(ts:List (List It))(k:Nat)(h:k<rs.length)(h':k<ts.length) :
  l9 E raw cuts a s (rs.drop k) (ts.drop k)=if(E ts[k]).2≠0 then .error (E ts[k]).2 else l9 E raw cuts (cuts.getD rs[k].2.toNat 0) (s++(aZ raw a (cuts.getD rs[k].1.toNat 0)++(E ts[k]).1)) (rs.drop (k+1)) (ts.drop (k+1)):=by
 rw[List.drop_eq_getElem_cons h,List.drop_eq_getElem_cons h',l9];rfl
theorem Gt{c:List Nat}(h:c.Pairwise (·<=·)){i j:Nat}(hij:i<=j)(hj:j<c.length):c.getD i 0<=c.getD j 0:=by
 rw[List.getD_eq_getElem?_getD,List.getD_eq_getElem?_getD,List.getElem?_eq_getElem hj,List.getElem?_eq_getElem (show i<c.length by omega),Option.getD_some,Option.getD_some];rcases Nat.lt_or_eq_of_le hij with h1|rfl
 ·exact List.pairwise_iff_getElem.1 h i j (by omega) hj h1
 exact Nat.le_refl _
end St
structure Hd (w W:YA) (fmt:Int) (A:Option Addr) (n c:Nat):Prop where
 u:ac w W
 b0:W.1[w.1.size]?=Yz (Yw #[Yp Yv fmt,Yr A n c] 25)
 b1:W.1[w.1.size+1]?=Yz (Yw #[Yp Yv 0,Yr Yy 0 0] 25)
 b2:W.1[w.1.size+2]?=Yz (Yw #[Yp Yv 0,Yr Yy 0 0] 25)
theorem Hd.start(w:YA)(fmt:Int)(A:Option Addr)(n c:Nat):Hd w (((w.alloc (Yw #[Yp Yv fmt,Yr A n c] 25)).alloc (Yw #[Yp Yv 0,Yr Yy 0 0] 25)).alloc (Yw #[Yp Yv 0,Yr Yy 0 0] 25)) fmt A n c:=by
 have e1:=heap_alloc_new w (Yw #[Yp Yv fmt,Yr A n c] 25);have e2:=heap_alloc_new (w.alloc (Yw #[Yp Yv fmt,Yr A n c] 25)) (Yw #[Yp Yv 0,Yr Yy 0 0] 25);have e3:=heap_alloc_new ((w.alloc (Yw #[Yp Yv fmt,Yr A n c] 25)).alloc (Yw #[Yp Yv 0,Yr Yy 0 0] 25)) (Yw #[Yp Yv 0,Yr Yy 0 0] 25);have u1:=((ac.refl (w.alloc (Yw #[Yp Yv fmt,Yr A n c] 25))).alloc (Yw #[Yp Yv 0,Yr Yy 0 0] 25)).alloc (Yw #[Yp Yv 0,Yr Yy 0 0] 25);have u2:=(ac.refl ((w.alloc (Yw #[Yp Yv fmt,Yr A n c] 25)).alloc (Yw #[Yp Yv 0,Yr Yy 0 0] 25))).alloc (Yw #[Yp Yv 0,Yr Yy 0 0] 25);refine⟨uZ,(u1.below.block w.1.size (by simp)).trans e1,?_,?_⟩
 ·have hs:(w.alloc (Yw #[Yp Yv fmt,Yr A n c] 25)).1.size=w.1.size+1:=by simp
  rw[hs]at e2;exact(u2.below.block (w.1.size+1) (by simp)).trans e2
 have hs:((w.alloc (Yw #[Yp Yv fmt,Yr A n c] 25)).alloc (Yw #[Yp Yv 0,Yr Yy 0 0] 25)).1.size=w.1.size+2:=by simp
 rw[hs]at e3;exact e3
section
variable {w W W':YA} {fmt:Int} {A:Option Addr} {n c:Nat}
theorem Hd.ai(h:Hd w W fmt A n c)(u:ac W W'):Hd w W' fmt A n c:=
 ⟨h.u.trans u,(u.below.block _ (ae h.b0)).trans h.b0,(u.below.block _ (ae h.b1)).trans h.b1,(u.below.block _ (ae h.b2)).trans h.b2⟩
theorem Hd.AE(h:Hd w W fmt A n c):W.cell? ⟨w.1.size,0,Yy⟩=Yz (Yp Yv fmt):=aj h.b0 0
theorem Hd.JR(h:Hd w W fmt A n c):W.cell? ⟨w.1.size,1,Yy⟩=Yz (Yr A n c):=aj h.b0 1
theorem Hd.bK(h:Hd w W fmt A n c):W.cell? ⟨w.1.size+1,0,Yy⟩=Yz (Yp Yv 0):=aj h.b1 0
theorem Hd.AF(h:Hd w W fmt A n c):W.cell? ⟨w.1.size+1,1,Yy⟩=Yz (Yr Yy 0 0):=aj h.b1 1
theorem Hd.xy(h:Hd w W fmt A n c):W.cell? ⟨w.1.size+2,0,Yy⟩=Yz (Yp Yv 0):=aj h.b2 0
theorem Hd.xz(h:Hd w W fmt A n c):W.cell? ⟨w.1.size+2,1,Yy⟩=Yz (Yr Yy 0 0):=aj h.b2 1
theorem Hd.f10(h:Hd w W fmt A n c):W.frozen? ⟨w.1.size+1,0,Yy⟩=false:=bu h.b1 0
theorem Hd.f11(h:Hd w W fmt A n c):W.frozen? ⟨w.1.size+1,1,Yy⟩=false:=bu h.b1 1
theorem Hd.l0(h:Hd w W fmt A n c):af w.1.size W:=af.of (ae h.b0)
theorem Hd.l1(h:Hd w W fmt A n c):af (w.1.size+1) W:=af.of (ae h.b1)
theorem Hd.l2(h:Hd w W fmt A n c):af (w.1.size+2) W:=af.of (ae h.b2)
theorem Hd.set(h:Hd w W fmt A n c)(u v:Value):ac w ((W.setCell ⟨w.1.size+1,0,Yy⟩ u).setCell ⟨w.1.size+1,1,Yy⟩ v):=
 ac.mk ((h.u.below.setCell (p:=⟨w.1.size+1,0,Yy⟩) (by simp) u).setCell (p:=⟨w.1.size+1,1,Yy⟩) (by simp) v)
end
def fV(R:(Int × List St.Pt) × Int)(w:YA)(e:Ending)(w':YA):Prop:=
 ∃A c,e=.returned (Yu #[.agg #[Yp Yv R.1.1,Yr A R.1.2.length c],Yp Yv R.2])/\a8 w' A R.1.2/\R.1.2.length<=c/\c<=9223372036854775807/\ac w w'
theorem fV.lF{R:(Int × List St.Pt) × Int}{er:Int}{w w':YA}(h:R=((0,[]),er))(u:ac w w'):fV R w (.returned (Yu #[.agg #[Yp Yv 0,Yr Yy 0 0],Yp Yv er])) w':=by
 subst h;exact⟨Yy,0,rfl,λh=>absurd h (by simp),by simp,by omega,u⟩
end
section
section
variable {fmt:Int} {D:List UInt8->St.gy} {S:List UInt8->List St.Pt × Nat × Int}
theorem Hw(A B C:Option Addr)(n c m d m2 e0:Nat)(ps:List St.Pt)(k:Int)(rs:List (Int × Int))(ts:List (List St.It))(w:YA)(hF:mP w fmt D S)(hn:ps.length=n)(hnc:n<=c)(dq:c<=9223372036854775807)(hm:rs.length=m)(hm2:ts.length=m2)(h:a8 w A ps)(hB:eC w B rs)(hl:n<=1000000)(hr:(St.b8 ps).length<=1000000)(fC:m<=20)
  (hbad:St.fP S ps≠0\/(St.bQ D ps k).2.2.2≠0\/ts.length≠rs.length\/St.bV (St.aA (St.bQ D ps k).1) 0 rs=false) :
  Calls Tryz.prog 16 #[.agg #[Yp Yv fmt,Yr A n c],Yp Yv k,Yr B m d,Yr C m2 e0] w (fV (St.eQ D S (St.bn fmt) fmt ps k rs ts) w):=by
 have HV:=aa (λW (hW:ac w W)=>xI A n c ps W (hF.ai hW) hn hnc dq (h.ai hW) (by omega) (by omega));have HC:=aa (λW (hW:ac w W)=>AK A n c ps k W (hF.ai hW) hn (h.ai hW) (by omega) (by omega));have HA:=aa (λW (hW:ac w W) (L:Nat)=>C6 B m d L rs W hm (hB.ai hW) (by omega))
 by_cases hv:St.fP S ps=0
 ·rw[hv]at HV
  by_cases hc:(St.bQ D ps k).2.2.2=0
  ·have hR:=aa (St.PO (E:=St.bn fmt) (fmt:=fmt) (k:=k) hv hc (by simpa[hv,hc]using hbad));obtain⟨j,hj,rfl,hu1,hU,hpt⟩:=St.zh hc;rw[hU]at hc HC hbad;have hok:=hF.ok _ hc;have RP:=uB ps j hj;have htot:=hok.aY;have hle:=hok.le;have hlen:=hok.len;generalize D ps[j].2.2=R at hc HC hbad hok htot hle hlen;generalize St.eQ D S (St.bn fmt) fmt ps (j:Int) rs ts=RR at *;obtain⟨f,cuts,tt,er⟩:=R;simp only at hc hbad htot hle hlen;subst hc;clear hok hU hpt hu1 h hB hF;go_enter Tryz.func16,Tryz.ntmps16;go_wp2_with fail;refine(HV.out _ uZ).mono ?_;rintro e w1 ⟨rfl,hu1⟩;have hd1:=(Hd.start w fmt A n c).ai hu1;have a0:=hd1.AE;have a1:=hd1.JR;haveI l0:=hd1.l0;haveI l1:=hd1.l1;haveI l2:=hd1.l2;have Af:=aa hd1;clear hd1 hu1;go_wp2_with fail;refine(HC.out _ Af.out.u).mono ?_;rintro e w2 ⟨A2,c2,rfl,hI,hc2,hc3,hu2⟩;have HI:=aa hI;have hd2:=Af.out.ai hu2;have z0:=hd2.xy;have z1:=hd2.xz;have r0:=hd2.bK;have r1:=hd2.AF;have q0:=hd2.f10;have q1:=hd2.f11;haveI l0:=hd2.l0;haveI l1:=hd2.l1;haveI l2:=hd2.l2;have du:=aa hd2;clear hd2 hu2 a0 a1 hI
   by_cases hmm:m2=m
   ·subst hmm;have hf:=aa (show St.bV (St.aA f) 0 rs=false by
     rcases hbad with hb|hb|hb|hb
     ·exact absurd hv hb
     ·exact absurd rfl hb
     ·omega
     exact hb)
    clear hbad;go_wp2_with fail;refine(li A2 f.length c2 f w2 rfl HI.out (by omega) (by omega)).mono ?_;rintro e w3 ⟨rfl,hu3⟩;have xc:=aa (du.out.ai hu3);clear hu3;go_wp2_with fail;refine(HA.out _ xc.out.u _).mono ?_;rintro e w4 ⟨rfl,bj⟩;have mm:=xc.out.ai bj;have z0:=mm.xy;have z1:=mm.xz;have r0:=mm.bK;have r1:=mm.AF;have q0:=mm.f10;have q1:=mm.f11;haveI l0:=mm.l0;haveI l1:=mm.l1;haveI l2:=mm.l2;have N6:=aa mm;clear mm bj;rw[hf.out];go_wp2;refine bodyPost_ret (v:=Yu #[.agg #[Yp Yv 0,Yr Yy 0 0],Yp Yv 1]) ?_ rfl ?_
    ·simp[results,Tryz.results16,go_sem,r0,r1]
    exact fV.lF hR.out (N6.out.set _ _)
   have z2:((m2:Int) != (m:Int))=true:=by simp;omega
   clear hbad;go_wp2;refine bodyPost_ret (v:=Yu #[.agg #[Yp Yv 0,Yr Yy 0 0],Yp Yv 1]) ?_ rfl ?_
   ·simp[results,Tryz.results16,go_sem,r0,r1]
   exact fV.lF hR.out (du.out.set _ _)
  have hR:=aa (St.PP (E:=St.bn fmt) (fmt:=fmt) (rs:=rs) (ts:=ts) hv hc);generalize St.bQ D ps k=R at *;generalize St.eQ D S (St.bn fmt) fmt ps k rs ts=RR at *;obtain⟨f,cuts,tt,er⟩:=R;simp only at hc hR;have z5:(er==0)=false:=by simpa using hc
  have z6:(er != 0)=true:=by simpa using hc
  clear hbad hF h hB hc;go_enter Tryz.func16,Tryz.ntmps16;go_wp2_with fail;refine(HV.out _ uZ).mono ?_;rintro e w1 ⟨rfl,hu1⟩;have hd1:=(Hd.start w fmt A n c).ai hu1;have a0:=hd1.AE;have a1:=hd1.JR;haveI l0:=hd1.l0;haveI l1:=hd1.l1;haveI l2:=hd1.l2;have Af:=aa hd1;clear hd1 hu1;go_wp2_with fail;refine(HC.out _ Af.out.u).mono ?_;rintro e w2 ⟨A2,c2,rfl,hI,hc2,hc3,hu2⟩;have hd2:=Af.out.ai hu2;have z0:=hd2.xy;have z1:=hd2.xz;have r0:=hd2.bK;have r1:=hd2.AF;have q0:=hd2.f10;have q1:=hd2.f11;haveI l0:=hd2.l0;haveI l1:=hd2.l1;haveI l2:=hd2.l2;have du:=aa hd2;clear hd2 hu2 a0 a1 hI;simp only;go_wp2;refine bodyPost_ret (v:=Yu #[.agg #[Yp Yv 0,Yr Yy 0 0],Yp Yv er]) ?_ rfl ?_
  ·simp[results,Tryz.results16,go_sem,r0,r1]
  exact fV.lF hR.out (du.out.set _ _)
 have hR:=aa (St.PR (D:=D) (E:=St.bn fmt) (fmt:=fmt) (k:=k) (rs:=rs) (ts:=ts) hv);generalize St.eQ D S (St.bn fmt) fmt ps k rs ts=RR at *;generalize St.fP S ps=vv at *;have z5:(vv==0)=false:=by simpa using hv
 have z6:(vv != 0)=true:=by simpa using hv
 clear hbad hF h hB hv;go_enter Tryz.func16,Tryz.ntmps16;go_wp2_with fail;refine(HV.out _ uZ).mono ?_;rintro e w1 ⟨rfl,hu1⟩;have hd2:=(Hd.start w fmt A n c).ai hu1;have z0:=hd2.xy;have z1:=hd2.xz;have r0:=hd2.bK;have r1:=hd2.AF;have q0:=hd2.f10;have q1:=hd2.f11;haveI l0:=hd2.l0;haveI l1:=hd2.l1;haveI l2:=hd2.l2;have du:=aa hd2;clear hd2 hu1;go_wp2;refine bodyPost_ret (v:=Yu #[.agg #[Yp Yv 0,Yr Yy 0 0],Yp Yv vv]) ?_ rfl ?_
 ·simp[results,Tryz.results16,go_sem,r0,r1]
 exact fV.lF hR.out (du.out.set _ _)
end
end
section
section
variable {fmt:Int} {D:List UInt8->St.gy} {S:List UInt8->List St.Pt × Nat × Int}
def JL(w w5:YA)(A:Option Addr)(n c:Nat)(fmt:Int)(raw:List UInt8)(cuts:List Nat)(L:Nat)(rs:List (Int × Int))(ts:List (List St.It))(yD rI Lr:Value)(wr:YA):Prop:=
 ∃(i a x:Nat) (sB:ByteArray),i<=rs.length/\Lr=Yp Yv i/\rI=Yp Yv a/\yD=Yq sB/\a<=cuts.getD x 0/\x<=L/\St.bV L x (rs.drop i)=true/\sB.size<=2000000*i /\
  St.l9 (St.bn fmt) raw cuts 0 [] rs ts=St.l9 (St.bn fmt) raw cuts a sB.1.1 (rs.drop i) (ts.drop i)/\Hd w wr fmt A n c/\ac w5 wr
def yP(w w9:YA)(fmt:Int)(A:Option Addr)(n c:Nat)(ps:List St.Pt)(Sg:Value)(W:YA):Prop:=
 ∃(gd g cap:Nat) (cur:Array Value),Sg=Yt (Yz ⟨gd,0,Yy⟩)/\w9.1.size<=gd/\w9.1.size<=g/\gd≠g/\W.1[gd]?=Yz (Yw #[Yp Yv fmt,Yr (Yz ⟨g,0,Yy⟩) n cap] 25) /\
  W.1[g]?=Yz (Yw cur 64)/\cur.size=cap*3/\n<=cap/\cap<=9223372036854775807/\cur.toList.take (n*3)=cd ps/\Hd w W fmt A n c/\ac w9 W
theorem B5(ps:List St.Pt)(k:Nat)(s:List UInt8)(h:k<ps.length):cd (St.dH ps k s)=(cd ps).set (k*3+2) (Yq ⟨s.toArray⟩):=by
 induction ps generalizing k with
 | nil=>simp at h
 | cons x ps ih=>
  match k,h with
  | 0,_=>rfl
  | k+1,h=>
   have e:(k+1)*3+2=(k*3+2)+3:=by omega
   rw[e];have:=ih k (by simpa using h)
   show([Value.bool x.1,Yq ⟨x.2.1.toArray⟩,Yq ⟨x.2.2.toArray⟩]++cd (St.dH ps k s))=_
   rw[this];rfl
theorem En{w:YA}{B e size n:Nat}{v:Value}{xs:List Value}(h:w.ownsRow B e size v n xs)(h0:0<n):∃g cap,v=Yr (Yz ⟨g,0,Yy⟩) n cap/\B<=g/\g<w.1.size/\w.ownsRow B e size (Yr (Yz ⟨g,0,Yy⟩) n cap) n xs:=by
 have h':=h;rcases h.2 with⟨_,e2⟩|⟨g,cap,cur,rfl,hb,hg,_⟩
 ·omega
 exact⟨g,cap,rfl,hb,ae hg,h'⟩
theorem Hq{w w9 mO:YA}{A:Option Addr}{n c B g cap:Nat}{ps:List St.Pt}(hd:Hd w w9 fmt A n c)(ho:mO.ownsRow B 64 3 (Yr (Yz ⟨g,0,Yy⟩) n cap) n (cd ps))(hB:w9.1.size<=B)(u:ac w9 mO)(h0:0<n) :
  yP w w9 fmt A n c ps (Yt (Yz ⟨mO.1.size,0,Yy⟩)) (mO.alloc (Yw #[Yp Yv fmt,Yr (Yz ⟨g,0,Yy⟩) n cap] 25)):=by
 rcases ho.2 with⟨_,e2⟩|⟨g',cap',cur,he,hb,hg,h1,h2,h3,h4⟩
 ·omega
 cases he;have hlt:=ae hg;have u2:=(ac.refl mO).alloc (Yw #[Yp Yv fmt,Yr (Yz ⟨g,0,Yy⟩) n cap] 25);exact⟨_,g,cap,cur,rfl,u.size,by omega,by omega,heap_alloc_new _ _,(u2.below.block g hlt).trans hg,h3,h1,by unfold maxLen at h2;omega,h4,hd.ai (u.trans u2),u.trans u2⟩
theorem E8{w w9 mO:YA}{A:Option Addr}{n c B g cap:Nat}{ps:List St.Pt}(hd:Hd w w9 fmt A n c)(ho:mO.ownsRow B 64 3 (Yr (Yz ⟨g,0,Yy⟩) n cap) n (cd ps))(hB:w9.1.size+1<=B)(u:ac (w9.alloc (Yw #[Yp Yv 0,Yr Yy 0 0] 25)) mO)(h0:0<n) :
  yP w w9 fmt A n c ps (Yt (Yz ⟨w9.1.size,0,Yy⟩)) ((mO.setCell ⟨w9.1.size,0,Yy⟩ (Yp Yv fmt)).setCell ⟨w9.1.size,1,Yy⟩ (Yr (Yz ⟨g,0,Yy⟩) n cap)):=by
 rcases ho.2 with⟨_,e2⟩|⟨g',cap',cur,he,hb,hg,h1,h2,h3,h4⟩
 ·omega
 cases he;have hgd:=(u.below.block w9.1.size (by simp)).trans (heap_alloc_new w9 (Yw #[Yp Yv 0,Yr Yy 0 0] 25));have e1:=heap_setCell_same _ _ 0 _ _ (Yp Yv fmt) hgd;have e2:=heap_setCell_same _ _ 1 _ _ (Yr (Yz ⟨g,0,Yy⟩) n cap) e1;have u9:ac w9 mO:=((ac.refl w9).alloc _).trans u;have u2:ac w9 ((mO.setCell ⟨w9.1.size,0,Yy⟩ (Yp Yv fmt)).setCell ⟨w9.1.size,1,Yy⟩ (Yr (Yz ⟨g,0,Yy⟩) n cap)):=(u9.setCell (p:=⟨w9.1.size,0,Yy⟩) (Nat.le_refl _) _).setCell (p:=⟨w9.1.size,1,Yy⟩) (Nat.le_refl _) _;refine⟨_,g,cap,cur,rfl,Nat.le_refl _,by omega,by omega,e2,?_,h3,h1,by unfold maxLen at h2;omega,h4,hd.ai u2,u2⟩;rw[heap_setCell_other _ _ _ _ (show g≠(⟨w9.1.size,1,Yy⟩:Addr).block by simp only;omega),heap_setCell_other _ _ _ _ (show g≠(⟨w9.1.size,0,Yy⟩:Addr).block by simp only;omega)];exact hg
theorem Nn(ps:List St.Pt)(k:Nat)(s:List UInt8):(St.b8 (St.dH ps k s)).length<=(St.b8 ps).length+s.length:=by
 induction ps generalizing k with
 | nil=>simp[St.dH,St.b8]
 | cons x ps ih=>
  match k with
  | 0=>simp[St.dH,St.b8];omega
  | k+1=>
   have:=ih k
   have e1:St.b8 (St.dH (x :: ps) (k+1) s)=x.2.2++St.b8 (St.dH ps k s):=rfl;have e2:St.b8 (x :: ps)=x.2.2++St.b8 ps:=rfl;rw[e1,e2,List.length_append,List.length_append];omega
theorem sM(ps:List St.Pt)(k:Nat)(s:List UInt8):(St.dH ps k s).length=ps.length:=by unfold St.dH;simp
theorem E9{W:YA}{g cap n:Nat}{cur:Array Value}{ps:List St.Pt}{k:Nat}{s:List UInt8}(hn:ps.length=n)(hk:k<n)(hg:W.1[g]?=Yz (Yw cur 64))(hs:cur.size=cap*3)(h1:n<=cap)(h2:cap<=9223372036854775807)(h3:cur.toList.take (n*3)=cd ps) :
  a8 (W.setCell ⟨g,k*3+2,Yy⟩ (Yq ⟨s.toArray⟩)) (Yz ⟨g,0,Yy⟩) (St.dH ps k s):=by
 have e1:=heap_setCell_same _ _ (k*3+2) _ _ (Yq ⟨s.toArray⟩) hg;refine qo (B:=g) (n:=n) (c:=cap) ⟨by rw[sX,sM,hn],.inr ⟨g,cap,_,rfl,Nat.le_refl _,e1,h1,by unfold maxLen;omega,by simpa using hs,?_⟩⟩ (by rw[sM,hn]);rw[B5 _ _ _ (by omega),<-h3,Array.toList_setIfInBounds,List.take_set]
end
end
section
section
variable {fmt:Int} {D:List UInt8->St.gy} {S:List UInt8->List St.Pt × Nat × Int}
theorem JY(A B C:Option Addr)(n c m d e0 j:Nat)(ps:List St.Pt)(rs:List (Int × Int))(ts:List (List St.It))(w:YA)(hF:mP w fmt D S)(hn:ps.length=n)(hnc:n<=c)(dq:c<=9223372036854775807)(hm:rs.length=m)(hm2:ts.length=m)(h:a8 w A ps)(hB:eC w B rs)(hC:gk w C ts)(hl:n<=1000000)(hr:(St.b8 ps).length<=1000000)(fC:m<=20)
  (hts:∀t∈ts,t.length<=1100/\aY t<=20000000) (hen:∀t∈ts,(St.bn fmt t).1.length<=1000000) (hj:j<ps.length) (hv:St.fP S ps=0) (hc:(St.bQ D ps j).2.2.2=0) (hU:St.bQ D ps j=D ps[j].2.2) (hpt:St.gx ps j=ps[j]) (ig:St.bV (St.aA (St.bQ D ps j).1) 0 rs=true) :
  Calls Tryz.prog 16 #[.agg #[Yp Yv fmt,Yr A n c],Yp Yv j,Yr B m d,Yr C m e0] w (fV (St.eQ D S (St.bn fmt) fmt ps j rs ts) w):=by
 have HV:=aa (λW (hW:ac w W)=>xI A n c ps W (hF.ai hW) hn hnc dq (h.ai hW) (by omega) (by omega));have HC:=aa (λW (hW:ac w W)=>AK A n c ps j W (hF.ai hW) hn (h.ai hW) (by omega) (by omega));have HA:=aa (λW (hW:ac w W) (L:Nat)=>C6 B m d L rs W hm (hB.ai hW) (by omega));have Gb:=St.PQ (E:=St.bn fmt) (fmt:=fmt) (k:=j) hv hc (by omega:ts.length=rs.length) ig;rw[hv]at HV;rw[hU]at hc HC ig Gb;rw[hpt]at Gb;have RP:=uB ps j hj;obtain⟨b,off,rfl,hb,hcl⟩:=h (by omega);have RL:=(hcl j hj).2.2;have jP:=aa (λW (hW:ac w W)=>I8 b off n c ps W hn (Nat.lt_of_lt_of_le hb hW.size) (λi hi=>⟨(hW.cell hb).trans (hcl i hi).1,(hW.cell hb).trans (hcl i hi).2.1,(hW.cell hb).trans (hcl i hi).2.2⟩) (by omega));have hok:=hF.ok _ hc;obtain⟨iK,hrw'⟩:∃iK:ByteArray,iK=⟨ps[j].2.2.toArray⟩:=⟨_,rfl⟩;have hrl:iK.1.1=ps[j].2.2:=by rw[hrw']
 have Gj:iK.size=ps[j].2.2.length:=by rw[<-hrl,St.aB]
 rw[<-hrw']at RL;have Ae:=aa (λW (hW:ac w W)=>hF.cut iK W hW (by omega));have Jv:=aa (λ(s:ByteArray) W (hW:ac w W) (hs:s.size<=1000000000)=>hF.dec s W hW hs);have tz:=aa hF.enc;have HH:=aa h;have HB:=aa hB;have xa:=aa hC;rw[hrl]at Ae;generalize po:ps[j].2.2=raw at *;generalize D raw=R at hc HC ig Gb hok Ae;obtain⟨f,cuts,tt,er⟩:=R;have hcut:=hok.cl;have htot:=hok.aY;have hle:=hok.le;have hlen:=hok.len;have hmono:=hok.mono;have htop:=hok.top;simp only at hc hcut htot hle hlen hmono htop ig Ae Gb;subst hc;generalize St.eQ D S (St.bn fmt) fmt ps (j:Int) rs ts=RR at *;have Qy:=aa Gb;have sW:=aa hts;have jR:=aa hen;have N9:=aa hmono;have Of:=aa htop;have Cw:=aa ig;have HN:=aa hn;have HM:=aa hm;have Am:=aa hm2;have Oe:=aa hrl;have VL:=aa hcl;have xl:=aa RL;have Qh:=aa hb;clear hok hU hpt hF Gb hts hen hmono htop ig hrw' hB hC h hcl RL;go_enter Tryz.func16,Tryz.ntmps16;go_wp2_with fail;refine(HV.out _ uZ).mono ?_;rintro e w1 ⟨rfl,hu1⟩;have hd1:=(Hd.start w fmt (Yz ⟨b,off,Yy⟩) n c).ai hu1;have a0:=hd1.AE;have a1:=hd1.JR;haveI l0:=hd1.l0;have Af:=aa hd1;clear hd1 hu1;go_wp2_with fail;refine(HC.out _ Af.out.u).mono ?_;rintro e w2 ⟨A2,c2,rfl,hI,hc2,hc3,hu2⟩;have HI:=aa hI;have du:=aa (Af.out.ai hu2);clear hu2 a0 a1 hI l0;simp only;go_wp2_with fail;refine(li A2 f.length c2 f w2 rfl HI.out (by omega) (by omega)).mono ?_;rintro e w3 ⟨rfl,hu3⟩;have xc:=aa (du.out.ai hu3);have bm:=aa hu3;clear hu3;go_wp2_with fail;refine(HA.out _ xc.out.u _).mono ?_;rintro e w4 ⟨rfl,bj⟩;have mm:=xc.out.ai bj;have ea:=aa (bm.out.trans bj);have a0:=mm.AE;have a1:=mm.JR;haveI l0:=mm.l0;have p0:=(mm.u.cell (p:=⟨b,off+j*3+2,Yy⟩) Qh.out).trans xl.out;haveI lb:af b w4:=af.of (Nat.lt_of_lt_of_le hb mm.u.size);have N6:=aa mm;have y1:(j:Int)<(n:Int):=by omega
 have y2:¬(j:Int)<0:=by omega
 clear mm bj;rw[Cw.out];go_wp2_with fail;refine(Ae.out _ N6.out.u).mono ?_;rintro e w5 ⟨A5,c5,rfl,Rc,U6,hc52,bt⟩;have VR:=aa Rc;have VE:=aa (N6.out.ai bt);have de:=aa (ea.out.trans bt);clear Rc bt a0 a1 p0 lb l0;have Xe:=hcut;generalize Rc:cuts.length=N5 at hcut |- U6;obtain⟨L,hL⟩:∃L,L=St.aA f:=⟨_,rfl⟩;rw[<-hL]at hcut;have MI:=Cw.out;rw[<-hL]at MI;have G5:=aa MI;have Q5:A2=Yy->True:=λ_=>trivial
 clear MI HV HC HA Ae HH VL xl hv po Q5 Oe Cw;go_wp2_with fail;go_loopw [16,17,73] (λyD rI Lr wr=>JL w w5 (Yz ⟨b,off,Yy⟩) n c fmt raw cuts L rs ts yD rI Lr wr) (λ_ _ Lr _=>m+1-(intOf Lr).toNat)
 case atStart=>exact⟨0,0,0,⟨#[]⟩,by omega,rfl,rfl,rfl,by omega,by omega,G5.out,Nat.le_refl 0,by simp,VE.out,ac.refl _⟩
 case round=>
  obtain⟨i,a,x,sB,hi,rfl,rfl,rfl,hax,hxL,has,hsz,hen,hd,hu⟩:=hrel;have HU:=aa hu;have HD:=aa hd;have G8:=aa hen;have hM:=HM.out;have XK:=Am.out
  have Ky:cuts.getD x 0<=raw.length:=by
   rw[List.getD_eq_getElem?_getD,List.getElem?_eq_getElem (show x<cuts.length by omega),Option.getD_some];exact Of.out _ (List.getElem_mem _)
  have a0:=hd.AE;haveI l0:=hd.l0
  by_cases hlt:i<m
  ·have aO:i<rs.length:=by omega
   have gf:i<ts.length:=by omega
   obtain⟨b2,off2,rfl,hb2,hc2'⟩:=(HB.out.ai hd.u) (by omega);obtain⟨c0,c1⟩:=hc2' i aO;obtain⟨b3,off3,rfl,hb3,hc3'⟩:=(xa.out.ai hd.u) (by omega);obtain⟨At,ct,g0,gI,gn,gc,gA⟩:=hc3' i gf;obtain⟨b5,off5,rfl,cD,hc5'⟩:=(VR.out.ai hu) (by omega);rw[j6 _ _ rs i aO]at has;have gP:=St.Mn (St.bn fmt) raw cuts a sB.1.1 rs ts i aO gf;have fT:=sW.out ts[i] (List.getElem_mem gf);have ff:=jR.out ts[i] (List.getElem_mem gf);generalize rs[i]=r at c0 c1 has gP;generalize ts[i]=t at g0 gI gn gP fT ff;obtain⟨p,q⟩:=r;simp only at c0 c1 has gP
   split at has
   ·cases has
   rename_i hcond
   obtain⟨p',rfl⟩:∃p':Nat,p=p':=⟨p.toNat,by omega⟩;obtain⟨q',rfl⟩:∃q':Nat,q=q':=⟨q.toNat,by omega⟩;have hap:x<=p':=by omega
   have pk:p'<=q':=by omega
   have RN:q'<=L:=by omega
   simp only[Int.toNat_natCast]at gP;have m1:=St.Gt N9.out hap (show p'<cuts.length by omega);have m2:=St.Gt N9.out pk (show q'<cuts.length by omega);have Dx:=hc5' p' (by omega);have Kx:=hc5' q' (by omega);have gp:cuts.getD p' 0=cuts[p']:=by rw[List.getD_eq_getElem?_getD,List.getElem?_eq_getElem (show p'<cuts.length by omega),Option.getD_some]
   have gq:cuts.getD q' 0=cuts[q']:=by rw[List.getD_eq_getElem?_getD,List.getElem?_eq_getElem (show q'<cuts.length by omega),Option.getD_some]
   have tq:=Of.out _ (List.getElem_mem (show q'<cuts.length by omega));rw[<-gp]at Dx;rw[<-gq]at Kx tq;have Kk:=aa (λW (hW:ac wr W)=>tz.out At t.length ct t W (hd.u.trans hW) rfl gn gc (gI.ai hW) (by omega) (by omega));generalize St.bn fmt t=Et at gP ff Kk;obtain⟨tl,te⟩:=Et;simp only at gP ff Kk;have htl:(⟨tl.toArray⟩:ByteArray).1.1=tl:=by simp
   have x9:(⟨tl.toArray⟩:ByteArray).size=tl.length:=by show tl.toArray.size=_;simp
   generalize(⟨tl.toArray⟩:ByteArray)=tB at Kk htl x9;obtain⟨cp,hcpe⟩:∃cp,cp=cuts.getD p' 0:=⟨_,rfl⟩;obtain⟨cq,hcqe⟩:∃cq,cq=cuts.getD q' 0:=⟨_,rfl⟩;rw[<-hcpe]at Dx gP m1 m2;have OF:=hcqe;rw[<-hcqe]at Kx tq gP m2;haveI Yf:af b2 wr:=af.of hb2;haveI Yg:af b3 wr:=af.of hb3;haveI Yh:af b5 wr:=af.of cD;have z1:(i:Int)<(m:Int):=by omega
   have z2:¬(i:Int)<0:=by omega
   have z3:(p':Int)<(N5:Int):=by omega
   have z4:(q':Int)<(N5:Int):=by omega
   have z5:(a:Int)<=(cp:Int):=by omega
   have z6:(cp:Int)<=(iK.size:Int):=by omega
   have z7:(0:Int)<=(a:Int):=by omega
   have Xz:=aa gI;clear hc2' hc3' hc5' hcond gp gq hu hd hen gI hcpe N9 Of
   by_cases hte:te=0
   ·subst hte;have hfin:∀W,ac wr W->JL w w5 (Yz ⟨b,off,Yy⟩) n c fmt raw cuts L rs ts (Yq (sB++(iK.extract a cp++tB))) (Yp Yv (cq:Int)) (Yp Yv ((i:Int)+1)) W:=λW hW=>
     ⟨i+1,cq,q',_,by omega,congrArg (Yp Yv) (by omega),rfl,rfl,by rw[hcqe];exact Nat.le_refl _,RN,has,by rw[ByteArray.size_append,ByteArray.size_append,ByteArray.size_extract];omega,by
      rw[G8.out,gP,if_neg (by simp),ByteArray.data_append,Array.toList_append,ByteArray.data_append,Array.toList_append,eW,htl,hrl],HD.out.ai hW,HU.out.trans hW⟩
    have dA:=aa hfin;clear hfin gP has hcqe OF;go_wp2_with fail
    first|refine aP (by kernel_rfl) (by kernel_rfl) ?_|refine aU (by kernel_rfl) (by kernel_rfl) ?_
    repeat (go_big_quiet_step (first|((go_at_call 50;exact Calls.eG (Kk.out _ uZ)))))
    refine wpQuiet_nil ?_;rintro _ ⟨X,rfl⟩;go_wp2_with fail;exact⟨dA.out _ uZ,by simp[intOf];omega⟩
   have hR:=aa (show RR=((0,[]),te)by rw[Qy.out,G8.out,gP,if_pos hte]);have z8:(te==0)=false:=by simpa using hte
   have z9:(te != 0)=true:=by simpa using hte
   clear gP has hcqe OF hte;go_wp2_with fail
   first|refine aP (by kernel_rfl) (by kernel_rfl) ?_|refine aU (by kernel_rfl) (by kernel_rfl) ?_
   repeat (go_big_quiet_step (first|((go_at_call 50;exact Calls.eG (Kk.out _ uZ)))))
   refine wpQuiet_nil ?_;rintro _ ⟨X,rfl⟩;have pf:=HD.out.ai (uZ:ac wr (under (wr.alloc (Yw #[Yp Yv (p':Int),Yp Yv (q':Int)] 33)) X));have y0:=pf.xy;have y3:=pf.xz;have r0:=pf.bK;have r1:=pf.AF;have q0:=pf.f10;have q1:=pf.f11;haveI l1:=pf.l1;haveI l2:=pf.l2;have Qj:=aa pf;clear pf;generalize under (wr.alloc (Yw #[Yp Yv (p':Int),Yp Yv (q':Int)] 33)) X=w6 at *;go_wp2;refine bodyPost_ret (v:=Yu #[.agg #[Yp Yv 0,Yr Yy 0 0],Yp Yv te]) ?_ rfl ?_
   ·simp[results,Tryz.results16,go_sem,r0,r1]
   exact fV.lF hR.out (Qj.out.set _ _)
  have hkn:i=m:=by omega
  subst hkn;have rm:=Qy.out;rw[G8.out,List.drop_of_length_le (by omega),List.drop_of_length_le (by omega)]at rm;simp only[St.l9,Int.toNat_natCast]at rm
  have Ul:(sB++iK.extract a raw.length).1.1=sB.1.1++raw.drop a:=by
   rw[ByteArray.data_append,Array.toList_append,eW,hrl];unfold St.aZ;rw[List.take_of_length_le (by omega)]
  have Yb:(sB++iK.extract a raw.length).size<=200000000:=by rw[ByteArray.size_append,ByteArray.size_extract];omega
  rw[<-Ul]at rm;have T5:=Jv.out (sB++iK.extract a raw.length);have z5:(a:Int)<=(iK.size:Int):=by omega
  have z7:(0:Int)<=(a:Int):=by omega
  have UF:=aa T5;have HP:=aa (λW (hW:ac wr W)=>JZ A2 B C f.length c2 i d e0 f rs ts W rfl hm hm2 (HI.out.ai ((de.out.trans hu).trans hW)) (HB.out.ai (hd.u.trans hW)) (xa.out.ai (hd.u.trans hW)) hlen (by omega) fC (λt ht=>⟨(sW.out t ht).1,by have:=(sW.out t ht).2;omega⟩) (by rw[<-hL];exact G5.out));have TN:=aa rm;clear rm T5 Ul hen hax has hlt Qy tz G8 HB xa G5 sW jR N9 Of hu;go_wp2_with fail;generalize sB++iK.extract a raw.length=sF at *;refine(UF.out _ hd.u (by omega)).mono ?_;rintro e w6 ⟨A6,c6,rfl,hI6,ML,hc62,dQ⟩;have pf:=hd.ai dQ;have Qj:=aa pf;have dS:=aa dQ;have CF:=aa hI6;have Ga:=TN.out;unfold St.Cp at Ga;have hsl:sF.1.1.length=sF.size:=St.aB sF;generalize D sF.1.1=R6 at Ga CF ML |-;obtain⟨g6,cu6,t6,e6⟩:=R6;simp only at Ga CF ML |-;have CK:=aa Ga;clear Ga TN hsz a0 hI6 dQ hd l0
  by_cases KA:e6=0
  ·subst KA;clear pf;go_wp2_with fail;refine(HP.out _ dS.out).mono ?_;rintro e w7 ⟨v7,rfl,dk,hl7,ht7,bR⟩;obtain⟨A7,c7,rfl,hc71,hc72,_⟩:=aW dk;have TA:=aa (a7 dk rfl);have mJ:=aa bR;have VF:=aa (Qj.out.ai bR);generalize St.cK f rs ts=P7 at *;clear dk bR HP;go_wp2_with fail;refine(ID A7 P7.length c7 P7 w7 rfl TA.out (by omega) (by omega)).mono ?_;rintro e w8 ⟨v8,rfl,Gf,pu⟩;obtain⟨A8,c8,rfl,hc81,hc82,_⟩:=aW Gf;have VN:=aa (a7 Gf rfl);have n5:=aa (mJ.out.trans pu);have VG:=aa (VF.out.ai pu);generalize St.pF P7=P8 at *;have U7:c8<=9223372036854775807:=by unfold maxLen at hc82;omega
   clear Gf pu TA;go_wp2_with fail;refine(KU A6 A8 g6.length P8.length c6 c8 g6 P8 w8 rfl rfl ML hc81 hc62 U7 (CF.out.ai n5.out) VN.out).mono ?_;rintro e w9 ⟨rfl,tp⟩;have ia:=VG.out.ai tp;clear tp;obtain⟨bb,hbb⟩:∃bb,bb=decide (g6=P8):=⟨_,rfl⟩;rw[<-hbb];cases bb
   ·have hR:=aa (show RR=((0,[]),11)by rw[CK.out,if_neg (by simp),if_pos (of_decide_eq_false hbb.symm)]);clear hbb;have y0:=ia.xy;have y3:=ia.xz;have r0:=ia.bK;have r1:=ia.AF;have q0:=ia.f10;have q1:=ia.f11;haveI l1:=ia.l1;haveI l2:=ia.l2;have Jv:=aa ia;clear ia;go_wp2;refine bodyPost_ret (v:=Yu #[.agg #[Yp Yv 0,Yr Yy 0 0],Yp Yv (11)]) ?_ rfl ?_
    ·simp[results,Tryz.results16,go_sem,r0,r1]
    exact fV.lF hR.out (Jv.out.set _ _)
   have hR:=aa (show RR=if 65536<(St.b8 (St.dH ps j sF.1.1)).length then((0,[]),3)else((fmt,St.dH ps j sF.1.1),0)by rw[CK.out,if_neg (by simp),if_neg (by simpa using of_decide_eq_true hbb.symm)]);have a0:=ia.AE;have a1:=ia.JR;have y0:=ia.xy;have y3:=ia.xz;haveI l0:=ia.l0;haveI l1:=ia.l1;haveI l2:=ia.l2;have Cy:=aa ia;have hn0:0<n:=by omega
   clear hbb ia;go_wp2_with fail;go_cut [23]from 24 (λSg wx=>yP w w9 fmt (Yz ⟨b,off,Yy⟩) n c ps Sg wx)
   case first=>
    go_region_law (first
     | (refine eR rfl 55 #[Yr (Yz ⟨b,off,Yy⟩) n c] _ (jP.out (w9.alloc (Yw #[Yp Yv 0,Yr Yy 0 0] 25)).drew (Cy.out.u.trans uZ)) ?_ ?_;(· go_simp;done);rintro e mO ⟨v10,rfl,ms,hu10⟩;obtain⟨g10,k10,rfl,hg10,hgl10,hoo10⟩:=En ms hn0;have MY:w9.1.size+1<=(w9.alloc (Yw #[Yp Yv 0,Yr Yy 0 0] 25)).drew.1.size:=(by simp);have ju:=(hu10.below.block w9.1.size (by simp)).trans (heap_alloc_new w9 (Yw #[Yp Yv 0,Yr Yy 0 0] 25));have d0:mO.cell? ⟨w9.1.size,0,Yy⟩=Yz (Yp Yv 0):=aj ju 0;have d1:mO.cell? ⟨w9.1.size,1,Yy⟩=Yz (Yr Yy 0 0):=aj ju 1;have f0:mO.frozen? ⟨w9.1.size,0,Yy⟩=false:=bu ju 0;have f1:mO.frozen? ⟨w9.1.size,1,Yy⟩=false:=bu ju 1;have Dy:=Cy.out.ai (ac.trans uZ hu10);have b0:=Dy.AE;haveI k0:=Dy.l0;haveI k1:af w9.1.size mO:=af.of (ae ju);refine⟨_,rfl,?_⟩)
     | (refine eR rfl 55 #[Yr (Yz ⟨b,off,Yy⟩) n c] _ (jP.out w9.drew (Cy.out.u.trans uZ)) ?_ ?_;(· go_simp;done);rintro e mO ⟨v10,rfl,ms,hu10⟩;obtain⟨g10,k10,rfl,hg10,hgl10,hoo10⟩:=En ms hn0;have MY:w9.1.size<=w9.drew.1.size:=(by simp);have Dy:=Cy.out.ai (ac.trans uZ hu10);have b0:=Dy.AE;haveI k0:=Dy.l0;refine⟨_,rfl,?_⟩))
    all_goals
     go_wp2_with fail;go_meet
     first
      | exact E8 Cy.out hoo10 MY (ac.trans uZ hu10) hn0
      | exact Hq Cy.out hoo10 MY (ac.trans uZ hu10) hn0
   case rest=>
    obtain⟨gd,g,cap,cur,rfl,hgd,xX,hne,hgdh,hgh,hcs,hncap,hcap,hct,eI,DN⟩:=hcut;have mM:=Nn ps j sF.1.1;have hsl:=sM ps j sF.1.1;have hp:=E9 (s:=sF.1.1) hn (by omega:j<n) hgh hcs hncap hcap hct;rw[bo]at hp;have jl:=DN.setCell (p:=⟨g,j*3+2,Yy⟩) xX (Yq sF);have Gc:=(heap_setCell_other wc ⟨g,j*3+2,Yy⟩ gd (Yq sF) hne).trans hgdh;have hds:=Cy.out.ai jl;have d0:wc.cell? ⟨gd,0,Yy⟩=Yz (Yp Yv fmt):=aj hgdh 0;have d1:wc.cell? ⟨gd,1,Yy⟩=Yz (Yr (Yz ⟨g,0,Yy⟩) n cap):=aj hgdh 1;have e2:wc.frozen? ⟨g,j*3+2,Yy⟩=false:=bu hgh (j*3+2);obtain⟨v2,hv2⟩:∃v2,wc.cell? ⟨g,j*3+2,Yy⟩=Yz v2:=⟨_,(aj hgh (j*3+2)).trans (Array.getElem?_eq_getElem (by omega))⟩;have s0:(wc.setCell ⟨g,j*3+2,Yy⟩ (Yq sF)).cell? ⟨gd,0,Yy⟩=Yz (Yp Yv fmt):=aj Gc 0;have s1:(wc.setCell ⟨g,j*3+2,Yy⟩ (Yq sF)).cell? ⟨gd,1,Yy⟩=Yz (Yr (Yz ⟨g,0,Yy⟩) n cap):=aj Gc 1;haveI m0:af gd wc:=af.of (ae hgdh);haveI m1:af g wc:=af.of (ae hgh);have VI:=aa hds;have TI:=aa hp;have Tx:=aa Gc;clear eI DN jl hds Gc hp hgdh hgh hct a0 a1 y0 y3 l0 l1 l2;go_wp2_with fail;generalize wc.setCell ⟨g,j*3+2,Yy⟩ (Yq sF)=w11 at *;refine(rV fmt (Yz ⟨g,0,Yy⟩) n cap (St.dH ps j sF.1.1) w11 (by omega) TI.out (by omega) (by omega)).mono ?_;rintro e Ss ⟨rfl,hu12⟩;have qL:=VI.out.ai hu12;have Ip:=(hu12.below.block gd (ae Tx.out)).trans Tx.out;have UT:=aa (TI.out.ai hu12);have t0:Ss.cell? ⟨gd,0,Yy⟩=Yz (Yp Yv fmt):=aj Ip 0;have t1:Ss.cell? ⟨gd,1,Yy⟩=Yz (Yr (Yz ⟨g,0,Yy⟩) n cap):=aj Ip 1;haveI m2:af gd Ss:=af.of (ae Ip);have hbz:(⟨(St.b8 (St.dH ps j sF.1.1)).toArray⟩:ByteArray).size=(St.b8 (St.dH ps j sF.1.1)).length:=by show(St.b8 (St.dH ps j sF.1.1)).toArray.size=_;simp
    generalize(⟨(St.b8 (St.dH ps j sF.1.1)).toArray⟩:ByteArray)=T0 at *;have L4:=aa qL;have r0:=qL.bK;have r1:=qL.AF;have q0:=qL.f10;have q1:=qL.f11;have y0:=qL.xy;have y3:=qL.xz;haveI l1:=qL.l1;haveI l2:=qL.l2;clear s0 s1 d0 d1 e2 hv2 hu12 Ip qL m0 m1
    by_cases hbig:65536<(St.b8 (St.dH ps j sF.1.1)).length
    ·have Re:=aa (show RR=((0,[]),3)by rw[hR.out,if_pos hbig]);have z1:(65536:Int)<(T0.size:Int):=by omega
     clear hbz hbig hR;go_wp2;refine bodyPost_ret (v:=Yu #[.agg #[Yp Yv 0,Yr Yy 0 0],Yp Yv 3]) ?_ rfl ?_
     ·simp[results,Tryz.results16,go_sem,r0,r1]
     exact fV.lF Re.out (L4.out.set _ _)
    have Re:=aa (show RR=((fmt,St.dH ps j sF.1.1),0)by rw[hR.out,if_neg hbig]);have z1:¬(65536:Int)<(T0.size:Int):=by omega
    have hE:=aa (λu v=>fG UT.out L4.out.b1 u v);clear hbz hbig hR;go_wp2;refine bodyPost_ret (v:=Yu #[.agg #[Yp Yv fmt,Yr (Yz ⟨g,0,Yy⟩) n cap],Yp Yv 0]) ?_ rfl ?_
    ·simp[results,Tryz.results16,go_sem,r0,r1]
    rw[Re.out];exact⟨Yz ⟨g,0,Yy⟩,cap,by simp only;rw[hsl,hn],hE.out _ _,by simp only;omega,hcap,L4.out.set _ _⟩
  have hR:=aa (show RR=((0,[]),e6)by rw[CK.out,if_pos KA]);have z8:(e6==0)=false:=by simpa using KA
  have z9:(e6 != 0)=true:=by simpa using KA
  have ia:=pf;clear pf KA;have y0:=ia.xy;have y3:=ia.xz;have r0:=ia.bK;have r1:=ia.AF;have q0:=ia.f10;have q1:=ia.f11;haveI l1:=ia.l1;haveI l2:=ia.l2;have Jv:=aa ia;clear ia;go_wp2;refine bodyPost_ret (v:=Yu #[.agg #[Yp Yv 0,Yr Yy 0 0],Yp Yv (e6)]) ?_ rfl ?_
  ·simp[results,Tryz.results16,go_sem,r0,r1]
  exact fV.lF hR.out (Jv.out.set _ _)
end
end
section
variable {fmt:Int} {D:List UInt8->St.gy} {S:List UInt8->List St.Pt × Nat × Int}
theorem tT(A B C:Option Addr)(n c m d m2 e0:Nat)(ps:List St.Pt)(k:Int)(rs:List (Int × Int))(ts:List (List St.It))(w:YA)(hF:mP w fmt D S)(hn:ps.length=n)(hnc:n<=c)(dq:c<=9223372036854775807)(hm:rs.length=m)(hm2:ts.length=m2)(h:a8 w A ps)(hB:eC w B rs)(hC:gk w C ts)(hl:n<=1000000)(hr:(St.b8 ps).length<=1000000)(fC:m<=20)
  (hts:∀t∈ts,t.length<=1100/\aY t<=20000000) (hen:∀t∈ts,(St.bn fmt t).1.length<=1000000) :
  Calls Tryz.prog 16 #[.agg #[Yp Yv fmt,Yr A n c],Yp Yv k,Yr B m d,Yr C m2 e0] w (fV (St.eQ D S (St.bn fmt) fmt ps k rs ts) w):=by
 by_cases hbad:St.fP S ps≠0\/(St.bQ D ps k).2.2.2≠0\/ts.length≠rs.length\/St.bV (St.aA (St.bQ D ps k).1) 0 rs=false
 ·exact Hw A B C n c m d m2 e0 ps k rs ts w hF hn hnc dq hm hm2 h hB hl hr fC hbad
 have h1:St.fP S ps=0:=Decidable.byContradiction λe=>hbad (.inl e)
 have h2:(St.bQ D ps k).2.2.2=0:=Decidable.byContradiction λe=>hbad (.inr (.inl e))
 have h3:ts.length=rs.length:=Decidable.byContradiction λe=>hbad (.inr (.inr (.inl e)))
 have h4:St.bV (St.aA (St.bQ D ps k).1) 0 rs=true:=by
  cases hq:St.bV (St.aA (St.bQ D ps k).1) 0 rs
  ·exact absurd (.inr (.inr (.inr hq))) hbad
  rfl
 obtain⟨j,hj,rfl,_,hU,hpt⟩:=St.zh h2;obtain rfl:m2=m:=by omega
 exact JY A B C n c m2 d e0 j ps rs ts w hF hn hnc dq hm hm2 h hB hC hl hr fC hts hen hj h1 h2 hU hpt h4
end
