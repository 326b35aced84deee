/- For document.Replace: its own blocks in memory, the cases of St.replD, and the errors. -/
import Derived.Test.YthoemdibbldndaaGreatDoorDcB
import Derived.Deep.CutRange
set_option linter.all false
set_option maxHeartbeats 0
set_option maxRecDepth 20000
open Go.Value renaming int->Yh,string->Yi,slice->Yj,pointer->Yl,tuple->Ym
open Go.IntKind renaming i64->Yn
open Go.Obj renaming cells->Yo
open Option renaming none->Yq,some->Yr
open Go renaming World->Ys
namespace Go.Proofs.YthoemdibbldndaaGreatDoor
open Go.RowKit
section
namespace St
variable {D:List UInt8->gr} {S:List UInt8->List Pt × Nat × Int} {E:List It->List UInt8 × Int} {fmt:Int} {ps:List Pt} {k:Int} {rs:List (Int × Int)} {ts:List (List It)}
theorem Pg(h:fL S ps≠0):fQ D S E fmt ps k rs ts=((0,[]),fL S ps):=by unfold fQ;rw[if_pos h]
theorem Pe(h0:fL S ps=0)(h:(bO D ps k).2.2.2≠0):fQ D S E fmt ps k rs ts=((0,[]),(bO D ps k).2.2.2):=by
 unfold fQ;rw[if_neg (by simpa using h0),if_pos h]
theorem Pd(h0:fL S ps=0)(h1:(bO D ps k).2.2.2=0)(h:ts.length≠rs.length\/dd (aA (bO D ps k).1) 0 rs=false):fQ D S E fmt ps k rs ts=((0,[]),1):=by
 unfold fQ;rw[if_neg (by simpa using h0),if_neg (by simpa using h1),if_pos h]
theorem Pf(h0:fL S ps=0)(h1:(bO D ps k).2.2.2=0)(h:ts.length=rs.length)(h':dd (aA (bO D ps k).1) 0 rs=true):fQ D S E fmt ps k rs ts=match lZ E (gl ps k).2.2 (bO D ps k).2.1 0 [] rs ts with
  | .error e=>((0,[]),e)
  | .ok (s,at')=>BJ D fmt ps k.toNat (k7 (cd (bO D ps k).1 rs ts)) (s++(gl ps k).2.2.drop at'):=by
 unfold fQ;rw[if_neg (by simpa using h0),if_neg (by simpa using h1),if_neg (by simp[h,h'])];split<;>rename_i e<;>rw[e]
theorem yx(h:(bO D ps k).2.2.2=0):∃(j:Nat) (hj:j<ps.length),k=j/\ps[j].1=true/\bO D ps k=D ps[j].2.2/\gl ps k=ps[j]:=by
 by_cases hk:0<=k
 ·obtain⟨j,rfl⟩:∃j:Nat,k=j:=⟨k.toNat,by omega⟩;have hp:gl ps (j:Int)=(ps[j]?).getD (false,[],[]):=by unfold gl;rw[if_pos hk];simp
  by_cases hj:j<ps.length
  ·rw[List.getElem?_eq_getElem hj,Option.getD_some]at hp;unfold bO at h
   split at h
   ·rename_i hu
    refine⟨j,hj,rfl,by rw[<-hp];exact hu,?_,hp⟩;unfold bO;rw[if_pos hu,hp]
   cases h
  rw[List.getElem?_eq_none (by omega)]at hp;unfold bO at h;rw[hp]at h;cases h
 have hp:gl ps k=(false,[],[]):=by unfold gl;rw[if_neg hk]
 unfold bO at h;rw[hp]at h;cases h
theorem Lx(E:List It->List UInt8 × Int)(raw:List UInt8)(cuts:List Nat)(a:Nat)(s:List UInt8)(rs:List (Int × Int))(ts:List (List It))(k:Nat)(h:k<rs.length)(h':k<ts.length) :
  lZ E raw cuts a s (rs.drop k) (ts.drop k)=if(E ts[k]).2≠0 then .error (E ts[k]).2 else lZ E raw cuts (cuts.getD rs[k].2.toNat 0) (s++(a6 raw a (cuts.getD rs[k].1.toNat 0)++(E ts[k]).1)) (rs.drop (k+1)) (ts.drop (k+1)):=by
 rw[List.drop_eq_getElem_cons h,List.drop_eq_getElem_cons h',lZ];rfl
theorem FI{c:List Nat}(h:c.Pairwise (·<=·)){i j:Nat}(hij:i<=j)(hj:j<c.length):c.getD i 0<=c.getD j 0:=by
 rw[List.getD_eq_getElem?_getD,List.getD_eq_getElem?_getD,List.getElem?_eq_getElem hj,List.getElem?_eq_getElem (show i<c.length by omega),Option.getD_some,Option.getD_some];rcases Nat.lt_or_eq_of_le hij with h1|rfl
 ·exact List.pairwise_iff_getElem.1 h i j (by omega) hj h1
 exact Nat.le_refl _
end St
structure Hd (w W:Ys) (fmt:Int) (A:Option Addr) (n c:Nat):Prop where
 u:ac w W
 b0:W.1[w.1.size]?=Yr (Yo #[Yh Yn fmt,Yj A n c] 25)
 b1:W.1[w.1.size+1]?=Yr (Yo #[Yh Yn 0,Yj Yq 0 0] 25)
 b2:W.1[w.1.size+2]?=Yr (Yo #[Yh Yn 0,Yj Yq 0 0] 25)
theorem Hd.start(w:Ys)(fmt:Int)(A:Option Addr)(n c:Nat):Hd w (((w.alloc (Yo #[Yh Yn fmt,Yj A n c] 25)).alloc (Yo #[Yh Yn 0,Yj Yq 0 0] 25)).alloc (Yo #[Yh Yn 0,Yj Yq 0 0] 25)) fmt A n c:=by
 have e1:=heap_alloc_new w (Yo #[Yh Yn fmt,Yj A n c] 25);have e2:=heap_alloc_new (w.alloc (Yo #[Yh Yn fmt,Yj A n c] 25)) (Yo #[Yh Yn 0,Yj Yq 0 0] 25);have e3:=heap_alloc_new ((w.alloc (Yo #[Yh Yn fmt,Yj A n c] 25)).alloc (Yo #[Yh Yn 0,Yj Yq 0 0] 25)) (Yo #[Yh Yn 0,Yj Yq 0 0] 25);have u1:=((ac.refl (w.alloc (Yo #[Yh Yn fmt,Yj A n c] 25))).alloc (Yo #[Yh Yn 0,Yj Yq 0 0] 25)).alloc (Yo #[Yh Yn 0,Yj Yq 0 0] 25);have u2:=(ac.refl ((w.alloc (Yo #[Yh Yn fmt,Yj A n c] 25)).alloc (Yo #[Yh Yn 0,Yj Yq 0 0] 25))).alloc (Yo #[Yh Yn 0,Yj Yq 0 0] 25);refine⟨uZ,(u1.below.block w.1.size (by simp)).trans e1,?_,?_⟩
 ·have hs:(w.alloc (Yo #[Yh Yn fmt,Yj A n c] 25)).1.size=w.1.size+1:=by simp
  rw[hs]at e2;exact(u2.below.block (w.1.size+1) (by simp)).trans e2
 have hs:((w.alloc (Yo #[Yh Yn fmt,Yj A n c] 25)).alloc (Yo #[Yh Yn 0,Yj Yq 0 0] 25)).1.size=w.1.size+2:=by simp
 rw[hs]at e3;exact e3
section
variable {w W W':Ys} {fmt:Int} {A:Option Addr} {n c:Nat}
theorem Hd.ai(h:Hd w W fmt A n c)(u:ac W W'):Hd w W' fmt A n c:=
 ⟨h.u.trans u,(u.below.block _ (ae h.b0)).trans h.b0,(u.below.block _ (ae h.b1)).trans h.b1,(u.below.block _ (ae h.b2)).trans h.b2⟩
theorem Hd.zK(h:Hd w W fmt A n c):W.cell? ⟨w.1.size,0,Yq⟩=Yr (Yh Yn fmt):=aj h.b0 0
theorem Hd.I9(h:Hd w W fmt A n c):W.cell? ⟨w.1.size,1,Yq⟩=Yr (Yj A n c):=aj h.b0 1
theorem Hd.bH(h:Hd w W fmt A n c):W.cell? ⟨w.1.size+1,0,Yq⟩=Yr (Yh Yn 0):=aj h.b1 0
theorem Hd.zL(h:Hd w W fmt A n c):W.cell? ⟨w.1.size+1,1,Yq⟩=Yr (Yj Yq 0 0):=aj h.b1 1
theorem Hd.wO(h:Hd w W fmt A n c):W.cell? ⟨w.1.size+2,0,Yq⟩=Yr (Yh Yn 0):=aj h.b2 0
theorem Hd.wP(h:Hd w W fmt A n c):W.cell? ⟨w.1.size+2,1,Yq⟩=Yr (Yj Yq 0 0):=aj h.b2 1
theorem Hd.f10(h:Hd w W fmt A n c):W.frozen? ⟨w.1.size+1,0,Yq⟩=false:=bz h.b1 0
theorem Hd.f11(h:Hd w W fmt A n c):W.frozen? ⟨w.1.size+1,1,Yq⟩=false:=bz h.b1 1
theorem Hd.l0(h:Hd w W fmt A n c):af w.1.size W:=af.of (ae h.b0)
theorem Hd.l1(h:Hd w W fmt A n c):af (w.1.size+1) W:=af.of (ae h.b1)
theorem Hd.l2(h:Hd w W fmt A n c):af (w.1.size+2) W:=af.of (ae h.b2)
theorem Hd.set(h:Hd w W fmt A n c)(u v:Value):ac w ((W.setCell ⟨w.1.size+1,0,Yq⟩ u).setCell ⟨w.1.size+1,1,Yq⟩ v):=
 ac.mk ((h.u.below.setCell (p:=⟨w.1.size+1,0,Yq⟩) (by simp) u).setCell (p:=⟨w.1.size+1,1,Yq⟩) (by simp) v)
end
def gK(R:(Int × List St.Pt) × Int)(w:Ys)(e:Ending)(w':Ys):Prop:=
 ∃A c,e=.returned (Ym #[.agg #[Yh Yn R.1.1,Yj A R.1.2.length c],Yh Yn R.2])/\bk w' A R.1.2/\R.1.2.length<=c/\c<=9223372036854775807/\ac w w'
theorem gK.lv{R:(Int × List St.Pt) × Int}{er:Int}{w w':Ys}(h:R=((0,[]),er))(u:ac w w'):gK R w (.returned (Ym #[.agg #[Yh Yn 0,Yj Yq 0 0],Yh Yn er])) w':=by
 subst h;exact⟨Yq,0,rfl,λh=>absurd h (by simp),by simp,by omega,u⟩
end
section
section
variable {fmt:Int} {D:List UInt8->St.gr} {S:List UInt8->List St.Pt × Nat × Int}
theorem GK(A B C:Option Addr)(n c m d m2 e0:Nat)(ps:List St.Pt)(k:Int)(rs:List (Int × Int))(ts:List (List St.It))(w:Ys)(hF:mP w fmt D S)(hn:ps.length=n)(hnc:n<=c)(dG:c<=9223372036854775807)(hm:rs.length=m)(hm2:ts.length=m2)(h:bk w A ps)(hB:eQ w B rs)(hl:n<=1000000)(hr:(St.b6 ps).length<=1000000)(fu:m<=20)
  (hbad:St.fL S ps≠0\/(St.bO D ps k).2.2.2≠0\/ts.length≠rs.length\/St.dd (St.aA (St.bO D ps k).1) 0 rs=false) :
  Calls Tryz.prog 16 #[.agg #[Yh Yn fmt,Yj A n c],Yh Yn k,Yj B m d,Yj C m2 e0] w (gK (St.fQ D S (St.bw fmt) fmt ps k rs ts) w):=by
 have HV:=aa (λW (hW:ac w W)=>wY A n c ps W (hF.ai hW) hn hnc dG (h.ai hW) (by omega) (by omega));have HC:=aa (λW (hW:ac w W)=>zQ A n c ps k W (hF.ai hW) hn (h.ai hW) (by omega) (by omega));have HA:=aa (λW (hW:ac w W) (L:Nat)=>Cr B m d L rs W hm (hB.ai hW) (by omega))
 by_cases hv:St.fL S ps=0
 ·rw[hv]at HV
  by_cases hc:(St.bO D ps k).2.2.2=0
  ·have hR:=aa (St.Pd (E:=St.bw fmt) (fmt:=fmt) (k:=k) hv hc (by simpa[hv,hc]using hbad));obtain⟨j,hj,rfl,hu1,iO,hpt⟩:=St.yx hc;rw[iO]at hc HC hbad;have hok:=hF.ok _ hc;have Rs:=tX ps j hj;have htot:=hok.aV;have hle:=hok.le;have hlen:=hok.len;generalize D ps[j].2.2=R at hc HC hbad hok htot hle hlen;generalize St.fQ D S (St.bw fmt) fmt ps (j:Int) rs ts=RR at *;obtain⟨f,cuts,tt,er⟩:=R;simp only at hc hbad htot hle hlen;subst hc;clear hok iO hpt hu1 h hB hF;go_enter Tryz.func16,Tryz.ntmps16;go_wp2_with fail;refine(HV.out _ uZ).mono ?_;rintro e w1 ⟨rfl,hu1⟩;have hd1:=(Hd.start w fmt A n c).ai hu1;have a0:=hd1.zK;have a1:=hd1.I9;haveI l0:=hd1.l0;haveI l1:=hd1.l1;haveI l2:=hd1.l2;have zo:=aa hd1;clear hd1 hu1;go_wp2_with fail;refine(HC.out _ zo.out.u).mono ?_;rintro e w2 ⟨A2,c2,rfl,hI,hc2,hc3,hu2⟩;have HI:=aa hI;have hd2:=zo.out.ai hu2;have z0:=hd2.wO;have z1:=hd2.wP;have r0:=hd2.bH;have r1:=hd2.zL;have q0:=hd2.f10;have q1:=hd2.f11;haveI l0:=hd2.l0;haveI l1:=hd2.l1;haveI l2:=hd2.l2;have dt:=aa hd2;clear hd2 hu2 a0 a1 hI
   by_cases hmm:m2=m
   ·subst hmm;have hf:=aa (show St.dd (St.aA f) 0 rs=false by
     rcases hbad with hb|hb|hb|hb
     ·exact absurd hv hb
     ·exact absurd rfl hb
     ·omega
     exact hb)
    clear hbad;go_wp2_with fail;refine(kY A2 f.length c2 f w2 rfl HI.out (by omega) (by omega)).mono ?_;rintro e w3 ⟨rfl,hu3⟩;have wA:=aa (dt.out.ai hu3);clear hu3;go_wp2_with fail;refine(HA.out _ wA.out.u _).mono ?_;rintro e w4 ⟨rfl,bf⟩;have mf:=wA.out.ai bf;have z0:=mf.wO;have z1:=mf.wP;have r0:=mf.bH;have r1:=mf.zL;have q0:=mf.f10;have q1:=mf.f11;haveI l0:=mf.l0;haveI l1:=mf.l1;haveI l2:=mf.l2;have Nl:=aa mf;clear mf bf;rw[hf.out];go_wp2;refine bodyPost_ret (v:=Ym #[.agg #[Yh Yn 0,Yj Yq 0 0],Yh Yn 1]) ?_ rfl ?_
    ·simp[results,Tryz.results16,go_sem,r0,r1]
    exact gK.lv hR.out (Nl.out.set _ _)
   have z2:((m2:Int) != (m:Int))=true:=by simp;omega
   clear hbad;go_wp2;refine bodyPost_ret (v:=Ym #[.agg #[Yh Yn 0,Yj Yq 0 0],Yh Yn 1]) ?_ rfl ?_
   ·simp[results,Tryz.results16,go_sem,r0,r1]
   exact gK.lv hR.out (dt.out.set _ _)
  have hR:=aa (St.Pe (E:=St.bw fmt) (fmt:=fmt) (rs:=rs) (ts:=ts) hv hc);generalize St.bO D ps k=R at *;generalize St.fQ D S (St.bw fmt) fmt ps k rs ts=RR at *;obtain⟨f,cuts,tt,er⟩:=R;simp only at hc hR;have z5:(er==0)=false:=by simpa using hc
  have z6:(er != 0)=true:=by simpa using hc
  clear hbad hF h hB hc;go_enter Tryz.func16,Tryz.ntmps16;go_wp2_with fail;refine(HV.out _ uZ).mono ?_;rintro e w1 ⟨rfl,hu1⟩;have hd1:=(Hd.start w fmt A n c).ai hu1;have a0:=hd1.zK;have a1:=hd1.I9;haveI l0:=hd1.l0;haveI l1:=hd1.l1;haveI l2:=hd1.l2;have zo:=aa hd1;clear hd1 hu1;go_wp2_with fail;refine(HC.out _ zo.out.u).mono ?_;rintro e w2 ⟨A2,c2,rfl,hI,hc2,hc3,hu2⟩;have hd2:=zo.out.ai hu2;have z0:=hd2.wO;have z1:=hd2.wP;have r0:=hd2.bH;have r1:=hd2.zL;have q0:=hd2.f10;have q1:=hd2.f11;haveI l0:=hd2.l0;haveI l1:=hd2.l1;haveI l2:=hd2.l2;have dt:=aa hd2;clear hd2 hu2 a0 a1 hI;simp only;go_wp2;refine bodyPost_ret (v:=Ym #[.agg #[Yh Yn 0,Yj Yq 0 0],Yh Yn er]) ?_ rfl ?_
  ·simp[results,Tryz.results16,go_sem,r0,r1]
  exact gK.lv hR.out (dt.out.set _ _)
 have hR:=aa (St.Pg (D:=D) (E:=St.bw fmt) (fmt:=fmt) (k:=k) (rs:=rs) (ts:=ts) hv);generalize St.fQ D S (St.bw fmt) fmt ps k rs ts=RR at *;generalize St.fL S ps=vv at *;have z5:(vv==0)=false:=by simpa using hv
 have z6:(vv != 0)=true:=by simpa using hv
 clear hbad hF h hB hv;go_enter Tryz.func16,Tryz.ntmps16;go_wp2_with fail;refine(HV.out _ uZ).mono ?_;rintro e w1 ⟨rfl,hu1⟩;have hd2:=(Hd.start w fmt A n c).ai hu1;have z0:=hd2.wO;have z1:=hd2.wP;have r0:=hd2.bH;have r1:=hd2.zL;have q0:=hd2.f10;have q1:=hd2.f11;haveI l0:=hd2.l0;haveI l1:=hd2.l1;haveI l2:=hd2.l2;have dt:=aa hd2;clear hd2 hu1;go_wp2;refine bodyPost_ret (v:=Ym #[.agg #[Yh Yn 0,Yj Yq 0 0],Yh Yn vv]) ?_ rfl ?_
 ·simp[results,Tryz.results16,go_sem,r0,r1]
 exact gK.lv hR.out (dt.out.set _ _)
end
end
section
section
variable {fmt:Int} {D:List UInt8->St.gr} {S:List UInt8->List St.Pt × Nat × Int}
def I3(w w5:Ys)(A:Option Addr)(n c:Nat)(fmt:Int)(raw:List UInt8)(cuts:List Nat)(L:Nat)(rs:List (Int × Int))(ts:List (List St.It))(RP nT KG:Value)(wr:Ys):Prop:=
 ∃(i a x:Nat) (sB:ByteArray),i<=rs.length/\KG=Yh Yn i/\nT=Yh Yn a/\RP=Yi sB/\a<=cuts.getD x 0/\x<=L/\St.dd L x (rs.drop i)=true/\sB.size<=2000000*i /\
  St.lZ (St.bw fmt) raw cuts 0 [] rs ts=St.lZ (St.bw fmt) raw cuts a sB.1.1 (rs.drop i) (ts.drop i)/\Hd w wr fmt A n c/\ac w5 wr
def ye(w w9:Ys)(fmt:Int)(A:Option Addr)(n c:Nat)(ps:List St.Pt)(RQ:Value)(W:Ys):Prop:=
 ∃(gd g cap:Nat) (cur:Array Value),RQ=Yl (Yr ⟨gd,0,Yq⟩)/\w9.1.size<=gd/\w9.1.size<=g/\gd≠g/\W.1[gd]?=Yr (Yo #[Yh Yn fmt,Yj (Yr ⟨g,0,Yq⟩) n cap] 25) /\
  W.1[g]?=Yr (Yo cur 64)/\cur.size=cap*3/\n<=cap/\cap<=9223372036854775807/\cur.toList.take (n*3)=bX ps/\Hd w W fmt A n c/\ac w9 W
theorem Bp(ps:List St.Pt)(k:Nat)(s:List UInt8)(h:k<ps.length):bX (St.dI ps k s)=(bX ps).set (k*3+2) (Yi ⟨s.toArray⟩):=by
 induction ps generalizing k with
 | nil=>simp at h
 | cons x ps ih=>
  match k,h with
  | 0,_=>rfl
  | k+1,h=>
   have e:(k+1)*3+2=(k*3+2)+3:=by omega
   rw[e];have:=ih k (by simpa using h)
   show([Value.bool x.1,Yi ⟨x.2.1.toArray⟩,Yi ⟨x.2.2.toArray⟩]++bX (St.dI ps k s))=_
   rw[this];rfl
theorem Dw{w:Ys}{B e size n:Nat}{v:Value}{xs:List Value}(h:w.ownsRow B e size v n xs)(h0:0<n):∃g cap,v=Yj (Yr ⟨g,0,Yq⟩) n cap/\B<=g/\g<w.1.size/\w.ownsRow B e size (Yj (Yr ⟨g,0,Yq⟩) n cap) n xs:=by
 have h':=h;rcases h.2 with⟨_,e2⟩|⟨g,cap,cur,rfl,hb,hg,_⟩
 ·omega
 exact⟨g,cap,rfl,hb,ae hg,h'⟩
theorem GC{w w9 mD:Ys}{A:Option Addr}{n c B g cap:Nat}{ps:List St.Pt}(hd:Hd w w9 fmt A n c)(ho:mD.ownsRow B 64 3 (Yj (Yr ⟨g,0,Yq⟩) n cap) n (bX ps))(hB:w9.1.size<=B)(u:ac w9 mD)(h0:0<n) :
  ye w w9 fmt A n c ps (Yl (Yr ⟨mD.1.size,0,Yq⟩)) (mD.alloc (Yo #[Yh Yn fmt,Yj (Yr ⟨g,0,Yq⟩) n cap] 25)):=by
 rcases ho.2 with⟨_,e2⟩|⟨g',cap',cur,he,hb,hg,h1,h2,h3,h4⟩
 ·omega
 cases he;have hlt:=ae hg;have u2:=(ac.refl mD).alloc (Yo #[Yh Yn fmt,Yj (Yr ⟨g,0,Yq⟩) n cap] 25);exact⟨_,g,cap,cur,rfl,u.size,by omega,by omega,heap_alloc_new _ _,(u2.below.block g hlt).trans hg,h3,h1,by unfold maxLen at h2;omega,h4,hd.ai (u.trans u2),u.trans u2⟩
theorem Ef{w w9 mD:Ys}{A:Option Addr}{n c B g cap:Nat}{ps:List St.Pt}(hd:Hd w w9 fmt A n c)(ho:mD.ownsRow B 64 3 (Yj (Yr ⟨g,0,Yq⟩) n cap) n (bX ps))(hB:w9.1.size+1<=B)(u:ac (w9.alloc (Yo #[Yh Yn 0,Yj Yq 0 0] 25)) mD)(h0:0<n) :
  ye w w9 fmt A n c ps (Yl (Yr ⟨w9.1.size,0,Yq⟩)) ((mD.setCell ⟨w9.1.size,0,Yq⟩ (Yh Yn fmt)).setCell ⟨w9.1.size,1,Yq⟩ (Yj (Yr ⟨g,0,Yq⟩) n cap)):=by
 rcases ho.2 with⟨_,e2⟩|⟨g',cap',cur,he,hb,hg,h1,h2,h3,h4⟩
 ·omega
 cases he;have hgd:=(u.below.block w9.1.size (by simp)).trans (heap_alloc_new w9 (Yo #[Yh Yn 0,Yj Yq 0 0] 25));have e1:=heap_setCell_same _ _ 0 _ _ (Yh Yn fmt) hgd;have e2:=heap_setCell_same _ _ 1 _ _ (Yj (Yr ⟨g,0,Yq⟩) n cap) e1;have u9:ac w9 mD:=((ac.refl w9).alloc _).trans u;have u2:ac w9 ((mD.setCell ⟨w9.1.size,0,Yq⟩ (Yh Yn fmt)).setCell ⟨w9.1.size,1,Yq⟩ (Yj (Yr ⟨g,0,Yq⟩) n cap)):=(u9.setCell (p:=⟨w9.1.size,0,Yq⟩) (Nat.le_refl _) _).setCell (p:=⟨w9.1.size,1,Yq⟩) (Nat.le_refl _) _;refine⟨_,g,cap,cur,rfl,Nat.le_refl _,by omega,by omega,e2,?_,h3,h1,by unfold maxLen at h2;omega,h4,hd.ai u2,u2⟩;rw[heap_setCell_other _ _ _ _ (show g≠(⟨w9.1.size,1,Yq⟩:Addr).block by simp only;omega),heap_setCell_other _ _ _ _ (show g≠(⟨w9.1.size,0,Yq⟩:Addr).block by simp only;omega)];exact hg
theorem Mx(ps:List St.Pt)(k:Nat)(s:List UInt8):(St.b6 (St.dI ps k s)).length<=(St.b6 ps).length+s.length:=by
 induction ps generalizing k with
 | nil=>simp[St.dI,St.b6]
 | cons x ps ih=>
  match k with
  | 0=>simp[St.dI,St.b6];omega
  | k+1=>
   have:=ih k
   have e1:St.b6 (St.dI (x :: ps) (k+1) s)=x.2.2++St.b6 (St.dI ps k s):=rfl;have e2:St.b6 (x :: ps)=x.2.2++St.b6 ps:=rfl;rw[e1,e2,List.length_append,List.length_append];omega
theorem sn(ps:List St.Pt)(k:Nat)(s:List UInt8):(St.dI ps k s).length=ps.length:=by unfold St.dI;simp
theorem Eg{W:Ys}{g cap n:Nat}{cur:Array Value}{ps:List St.Pt}{k:Nat}{s:List UInt8}(hn:ps.length=n)(hk:k<n)(hg:W.1[g]?=Yr (Yo cur 64))(hs:cur.size=cap*3)(h1:n<=cap)(h2:cap<=9223372036854775807)(h3:cur.toList.take (n*3)=bX ps) :
  bk (W.setCell ⟨g,k*3+2,Yq⟩ (Yi ⟨s.toArray⟩)) (Yr ⟨g,0,Yq⟩) (St.dI ps k s):=by
 have e1:=heap_setCell_same _ _ (k*3+2) _ _ (Yi ⟨s.toArray⟩) hg;refine qd (B:=g) (n:=n) (c:=cap) ⟨by rw[sE,sn,hn],.inr ⟨g,cap,_,rfl,Nat.le_refl _,e1,h1,by unfold maxLen;omega,by simpa using hs,?_⟩⟩ (by rw[sn,hn]);rw[Bp _ _ _ (by omega),<-h3,Array.toList_setIfInBounds,List.take_set]
end
end
section
section
variable {fmt:Int} {D:List UInt8->St.gr} {S:List UInt8->List St.Pt × Nat × Int}
theorem Jg(A B C:Option Addr)(n c m d e0 j:Nat)(ps:List St.Pt)(rs:List (Int × Int))(ts:List (List St.It))(w:Ys)(hF:mP w fmt D S)(hn:ps.length=n)(hnc:n<=c)(dG:c<=9223372036854775807)(hm:rs.length=m)(hm2:ts.length=m)(h:bk w A ps)(hB:eQ w B rs)(hC:gJ w C ts)(hl:n<=1000000)(hr:(St.b6 ps).length<=1000000)(fu:m<=20)
  (hts:∀t∈ts,t.length<=1100/\aV t<=20000000) (hen:∀t∈ts,(St.bw fmt t).1.length<=1000000) (hj:j<ps.length) (hv:St.fL S ps=0) (hc:(St.bO D ps j).2.2.2=0) (iO:St.bO D ps j=D ps[j].2.2) (hpt:St.gl ps j=ps[j]) (gh:St.dd (St.aA (St.bO D ps j).1) 0 rs=true) :
  Calls Tryz.prog 16 #[.agg #[Yh Yn fmt,Yj A n c],Yh Yn j,Yj B m d,Yj C m e0] w (gK (St.fQ D S (St.bw fmt) fmt ps j rs ts) w):=by
 have HV:=aa (λW (hW:ac w W)=>wY A n c ps W (hF.ai hW) hn hnc dG (h.ai hW) (by omega) (by omega));have HC:=aa (λW (hW:ac w W)=>zQ A n c ps j W (hF.ai hW) hn (h.ai hW) (by omega) (by omega));have HA:=aa (λW (hW:ac w W) (L:Nat)=>Cr B m d L rs W hm (hB.ai hW) (by omega));have Fm:=St.Pf (E:=St.bw fmt) (fmt:=fmt) (k:=j) hv hc (by omega:ts.length=rs.length) gh;rw[hv]at HV;rw[iO]at hc HC gh Fm;rw[hpt]at Fm;have Rs:=tX ps j hj;obtain⟨b,off,rfl,hb,hcl⟩:=h (by omega);have Rp:=(hcl j hj).2.2;have jL:=aa (λW (hW:ac w W)=>Io b off n c ps W hn (Nat.lt_of_lt_of_le hb hW.size) (λi hi=>⟨(hW.cell hb).trans (hcl i hi).1,(hW.cell hb).trans (hcl i hi).2.1,(hW.cell hb).trans (hcl i hi).2.2⟩) (by omega));have hok:=hF.ok _ hc;obtain⟨iD,hrw'⟩:∃iD:ByteArray,iD=⟨ps[j].2.2.toArray⟩:=⟨_,rfl⟩;have hrl:iD.1.1=ps[j].2.2:=by rw[hrw']
 have Fz:iD.size=ps[j].2.2.length:=by rw[<-hrl,St.aC]
 rw[<-hrw']at Rp;have zm:=aa (λW (hW:ac w W)=>hF.cut iD W hW (by omega));have IS:=aa (λ(s:ByteArray) W (hW:ac w W) (hs:s.size<=1000000000)=>hF.dec s W hW hs);have sV:=aa hF.enc;have HH:=aa h;have HB:=aa hB;have sU:=aa hC;rw[hrl]at zm;generalize pg:ps[j].2.2=raw at *;generalize D raw=R at hc HC gh Fm hok zm;obtain⟨f,cuts,tt,er⟩:=R;have hcut:=hok.cl;have htot:=hok.aV;have hle:=hok.le;have hlen:=hok.len;have hmono:=hok.mono;have htop:=hok.top;simp only at hc hcut htot hle hlen hmono htop gh zm Fm;subst hc;generalize St.fQ D S (St.bw fmt) fmt ps (j:Int) rs ts=RR at *;have E0:=aa Fm;have pK:=aa hts;have jN:=aa hen;have Ns:=aa hmono;have Nx:=aa htop;have vf:=aa gh;have HN:=aa hn;have HM:=aa hm;have zy:=aa hm2;have EZ:=aa hrl;have VC:=aa hcl;have wI:=aa Rp;have PF:=aa hb;clear hok iO hpt hF Fm hts hen hmono htop gh hrw' hB hC h hcl Rp;go_enter Tryz.func16,Tryz.ntmps16;go_wp2_with fail;refine(HV.out _ uZ).mono ?_;rintro e w1 ⟨rfl,hu1⟩;have hd1:=(Hd.start w fmt (Yr ⟨b,off,Yq⟩) n c).ai hu1;have a0:=hd1.zK;have a1:=hd1.I9;haveI l0:=hd1.l0;have zo:=aa hd1;clear hd1 hu1;go_wp2_with fail;refine(HC.out _ zo.out.u).mono ?_;rintro e w2 ⟨A2,c2,rfl,hI,hc2,hc3,hu2⟩;have HI:=aa hI;have dt:=aa (zo.out.ai hu2);clear hu2 a0 a1 hI l0;simp only;go_wp2_with fail;refine(kY A2 f.length c2 f w2 rfl HI.out (by omega) (by omega)).mono ?_;rintro e w3 ⟨rfl,hu3⟩;have wA:=aa (dt.out.ai hu3);have a7:=aa hu3;clear hu3;go_wp2_with fail;refine(HA.out _ wA.out.u _).mono ?_;rintro e w4 ⟨rfl,bf⟩;have mf:=wA.out.ai bf;have fj:=aa (a7.out.trans bf);have a0:=mf.zK;have a1:=mf.I9;haveI l0:=mf.l0;have p0:=(mf.u.cell (p:=⟨b,off+j*3+2,Yq⟩) PF.out).trans wI.out;haveI lb:af b w4:=af.of (Nat.lt_of_lt_of_le hb mf.u.size);have Nl:=aa mf;have y1:(j:Int)<(n:Int):=by omega
 have y2:¬(j:Int)<0:=by omega
 clear mf bf;rw[vf.out];go_wp2_with fail;refine(zm.out _ Nl.out.u).mono ?_;rintro e w5 ⟨A5,c5,rfl,QM,UW,hc52,bg⟩;have VI:=aa QM;have Vv:=aa (Nl.out.ai bg);have dh:=aa (fj.out.trans bg);clear QM bg a0 a1 p0 lb l0;have W7:=hcut;generalize QM:cuts.length=N5 at hcut |- UW;obtain⟨L,hL⟩:∃L,L=St.aA f:=⟨_,rfl⟩;rw[<-hL]at hcut;have LR:=vf.out;rw[<-hL]at LR;have Gf:=aa LR;have QE:A2=Yq->True:=λ_=>trivial
 clear LR HV HC HA zm HH VC wI hv pg QE EZ vf;go_wp2_with fail;go_loopw [16,17,73] (λRP nT KG wr=>I3 w w5 (Yr ⟨b,off,Yq⟩) n c fmt raw cuts L rs ts RP nT KG wr) (λ_ _ KG _=>m+1-(intOf KG).toNat)
 case atStart=>exact⟨0,0,0,⟨#[]⟩,by omega,rfl,rfl,rfl,by omega,by omega,Gf.out,Nat.le_refl 0,by simp,Vv.out,ac.refl _⟩
 case round=>
  obtain⟨i,a,x,sB,hi,rfl,rfl,rfl,hax,hxL,has,hsz,hen,hd,hu⟩:=hrel;have HU:=aa hu;have HD:=aa hd;have Gi:=aa hen;have hM:=HM.out;have XC:=zy.out
  have Ak:cuts.getD x 0<=raw.length:=by
   rw[List.getD_eq_getElem?_getD,List.getElem?_eq_getElem (show x<cuts.length by omega),Option.getD_some];exact Nx.out _ (List.getElem_mem _)
  have a0:=hd.zK;haveI l0:=hd.l0
  by_cases hlt:i<m
  ·have aI:i<rs.length:=by omega
   have eS:i<ts.length:=by omega
   obtain⟨b2,off2,rfl,hb2,hc2'⟩:=(HB.out.ai hd.u) (by omega);obtain⟨c0,c1⟩:=hc2' i aI;obtain⟨b3,off3,rfl,hb3,hc3'⟩:=(sU.out.ai hd.u) (by omega);obtain⟨At,ct,g0,gI,gn,gc,gA⟩:=hc3' i eS;obtain⟨b5,off5,rfl,cA,hc5'⟩:=(VI.out.ai hu) (by omega);rw[rG _ _ rs i aI]at has;have fl:=St.Lx (St.bw fmt) raw cuts a sB.1.1 rs ts i aI eS;have fx:=pK.out ts[i] (List.getElem_mem eS);have fa:=jN.out ts[i] (List.getElem_mem eS);generalize rs[i]=r at c0 c1 has fl;generalize ts[i]=t at g0 gI gn fl fx fa;obtain⟨p,q⟩:=r;simp only at c0 c1 has fl
   split at has
   ·cases has
   rename_i hcond
   obtain⟨p',rfl⟩:∃p':Nat,p=p':=⟨p.toNat,by omega⟩;obtain⟨q',rfl⟩:∃q':Nat,q=q':=⟨q.toNat,by omega⟩;have hap:x<=p':=by omega
   have mm:p'<=q':=by omega
   have JY:q'<=L:=by omega
   simp only[Int.toNat_natCast]at fl;have m1:=St.FI Ns.out hap (show p'<cuts.length by omega);have m2:=St.FI Ns.out mm (show q'<cuts.length by omega);have CR:=hc5' p' (by omega);have JN:=hc5' q' (by omega);have gp:cuts.getD p' 0=cuts[p']:=by rw[List.getD_eq_getElem?_getD,List.getElem?_eq_getElem (show p'<cuts.length by omega),Option.getD_some]
   have gq:cuts.getD q' 0=cuts[q']:=by rw[List.getD_eq_getElem?_getD,List.getElem?_eq_getElem (show q'<cuts.length by omega),Option.getD_some]
   have tq:=Nx.out _ (List.getElem_mem (show q'<cuts.length by omega));rw[<-gp]at CR;rw[<-gq]at JN tq;have JA:=aa (λW (hW:ac wr W)=>sV.out At t.length ct t W (hd.u.trans hW) rfl gn gc (gI.ai hW) (by omega) (by omega));generalize St.bw fmt t=Et at fl fa JA;obtain⟨tl,te⟩:=Et;simp only at fl fa JA;have htl:(⟨tl.toArray⟩:ByteArray).1.1=tl:=by simp
   have xC:(⟨tl.toArray⟩:ByteArray).size=tl.length:=by show tl.toArray.size=_;simp
   generalize(⟨tl.toArray⟩:ByteArray)=tB at JA htl xC;obtain⟨cp,hcpe⟩:∃cp,cp=cuts.getD p' 0:=⟨_,rfl⟩;obtain⟨cq,hcqe⟩:∃cq,cq=cuts.getD q' 0:=⟨_,rfl⟩;rw[<-hcpe]at CR fl m1 m2;have NY:=hcqe;rw[<-hcqe]at JN tq fl m2;haveI X4:af b2 wr:=af.of hb2;haveI X8:af b3 wr:=af.of hb3;haveI X9:af b5 wr:=af.of cA;have z1:(i:Int)<(m:Int):=by omega
   have z2:¬(i:Int)<0:=by omega
   have z3:(p':Int)<(N5:Int):=by omega
   have z4:(q':Int)<(N5:Int):=by omega
   have z5:(a:Int)<=(cp:Int):=by omega
   have z6:(cp:Int)<=(iD.size:Int):=by omega
   have z7:(0:Int)<=(a:Int):=by omega
   have Xu:=aa gI;clear hc2' hc3' hc5' hcond gp gq hu hd hen gI hcpe Ns Nx
   by_cases hte:te=0
   ·subst hte;have hfin:∀W,ac wr W->I3 w w5 (Yr ⟨b,off,Yq⟩) n c fmt raw cuts L rs ts (Yi (sB++(iD.extract a cp++tB))) (Yh Yn (cq:Int)) (Yh Yn ((i:Int)+1)) W:=λW hW=>
     ⟨i+1,cq,q',_,by omega,congrArg (Yh Yn) (by omega),rfl,rfl,by rw[hcqe];exact Nat.le_refl _,JY,has,by rw[ByteArray.size_append,ByteArray.size_append,ByteArray.size_extract];omega,by
      rw[Gi.out,fl,if_neg (by simp),ByteArray.data_append,Array.toList_append,ByteArray.data_append,Array.toList_append,eR,htl,hrl],HD.out.ai hW,HU.out.trans hW⟩
    have dq:=aa hfin;clear hfin fl has hcqe NY;go_wp2_with fail
    first|refine aP (by kernel_rfl) (by kernel_rfl) ?_|refine aS (by kernel_rfl) (by kernel_rfl) ?_
    repeat (go_big_quiet_step (first|((go_at_call 50;exact Calls.eE (JA.out _ uZ)))))
    refine wpQuiet_nil ?_;rintro _ ⟨X,rfl⟩;go_wp2_with fail;exact⟨dq.out _ uZ,by simp[intOf];omega⟩
   have hR:=aa (show RR=((0,[]),te)by rw[E0.out,Gi.out,fl,if_pos hte]);have z8:(te==0)=false:=by simpa using hte
   have z9:(te != 0)=true:=by simpa using hte
   clear fl has hcqe NY hte;go_wp2_with fail
   first|refine aP (by kernel_rfl) (by kernel_rfl) ?_|refine aS (by kernel_rfl) (by kernel_rfl) ?_
   repeat (go_big_quiet_step (first|((go_at_call 50;exact Calls.eE (JA.out _ uZ)))))
   refine wpQuiet_nil ?_;rintro _ ⟨X,rfl⟩;have o6:=HD.out.ai (uZ:ac wr (under (wr.alloc (Yo #[Yh Yn (p':Int),Yh Yn (q':Int)] 33)) X));have y0:=o6.wO;have y3:=o6.wP;have r0:=o6.bH;have r1:=o6.zL;have q0:=o6.f10;have q1:=o6.f11;haveI l1:=o6.l1;haveI l2:=o6.l2;have PG:=aa o6;clear o6;generalize under (wr.alloc (Yo #[Yh Yn (p':Int),Yh Yn (q':Int)] 33)) X=w6 at *;go_wp2;refine bodyPost_ret (v:=Ym #[.agg #[Yh Yn 0,Yj Yq 0 0],Yh Yn te]) ?_ rfl ?_
   ·simp[results,Tryz.results16,go_sem,r0,r1]
   exact gK.lv hR.out (PG.out.set _ _)
  have hkn:i=m:=by omega
  subst hkn;have qU:=E0.out;rw[Gi.out,List.drop_of_length_le (by omega),List.drop_of_length_le (by omega)]at qU;simp only[St.lZ,Int.toNat_natCast]at qU
  have T6:(sB++iD.extract a raw.length).1.1=sB.1.1++raw.drop a:=by
   rw[ByteArray.data_append,Array.toList_append,eR,hrl];unfold St.a6;rw[List.take_of_length_le (by omega)]
  have X1:(sB++iD.extract a raw.length).size<=200000000:=by rw[ByteArray.size_append,ByteArray.size_extract];omega
  rw[<-T6]at qU;have TN:=IS.out (sB++iD.extract a raw.length);have z5:(a:Int)<=(iD.size:Int):=by omega
  have z7:(0:Int)<=(a:Int):=by omega
  have Uv:=aa TN;have HP:=aa (λW (hW:ac wr W)=>Jh A2 B C f.length c2 i d e0 f rs ts W rfl hm hm2 (HI.out.ai ((dh.out.trans hu).trans hW)) (HB.out.ai (hd.u.trans hW)) (sU.out.ai (hd.u.trans hW)) hlen (by omega) fu (λt ht=>⟨(pK.out t ht).1,by have:=(pK.out t ht).2;omega⟩) (by rw[<-hL];exact Gf.out));have Tt:=aa qU;clear qU TN T6 hen hax has hlt E0 sV Gi HB sU Gf pK jN Ns Nx hu;go_wp2_with fail;generalize sB++iD.extract a raw.length=sF at *;refine(Uv.out _ hd.u (by omega)).mono ?_;rintro e w6 ⟨A6,c6,rfl,hI6,LV,hc62,dD⟩;have o6:=hd.ai dD;have PG:=aa o6;have eu:=aa dD;have EQ:=aa hI6;have Fl:=Tt.out;unfold St.BJ at Fl;have hsl:sF.1.1.length=sF.size:=St.aC sF;generalize D sF.1.1=R6 at Fl EQ LV |-;obtain⟨g6,cu6,t6,e6⟩:=R6;simp only at Fl EQ LV |-;have B6:=aa Fl;clear Fl Tt hsz a0 hI6 dD hd l0
  by_cases JP:e6=0
  ·subst JP;clear o6;go_wp2_with fail;refine(HP.out _ eu.out).mono ?_;rintro e w7 ⟨v7,rfl,cW,hl7,ht7,bM⟩;obtain⟨A7,c7,rfl,hc71,hc72,_⟩:=aR cW;have Nq:=aa (aW cW rfl);have lE:=aa bM;have Vw:=aa (PG.out.ai bM);generalize St.cd f rs ts=P7 at *;clear cW bM HP;go_wp2_with fail;refine(Hm A7 P7.length c7 P7 w7 rfl Nq.out (by omega) (by omega)).mono ?_;rintro e w8 ⟨v8,rfl,uU,mr⟩;obtain⟨A8,c8,rfl,hc81,hc82,_⟩:=aR uU;have VE:=aa (aW uU rfl);have mI:=aa (lE.out.trans mr);have Vx:=aa (Vw.out.ai mr);generalize St.k7 P7=P8 at *;have UX:c8<=9223372036854775807:=by unfold maxLen at hc82;omega
   clear uU mr Nq;go_wp2_with fail;refine(Ka A6 A8 g6.length P8.length c6 c8 g6 P8 w8 rfl rfl LV hc81 hc62 UX (EQ.out.ai mI.out) VE.out).mono ?_;rintro e w9 ⟨rfl,pk⟩;have gT:=Vx.out.ai pk;clear pk;obtain⟨bb,hbb⟩:∃bb,bb=decide (g6=P8):=⟨_,rfl⟩;rw[<-hbb];cases bb
   ·have hR:=aa (show RR=((0,[]),11)by rw[B6.out,if_neg (by simp),if_pos (of_decide_eq_false hbb.symm)]);clear hbb;have y0:=gT.wO;have y3:=gT.wP;have r0:=gT.bH;have r1:=gT.zL;have q0:=gT.f10;have q1:=gT.f11;haveI l1:=gT.l1;haveI l2:=gT.l2;have IS:=aa gT;clear gT;go_wp2;refine bodyPost_ret (v:=Ym #[.agg #[Yh Yn 0,Yj Yq 0 0],Yh Yn (11)]) ?_ rfl ?_
    ·simp[results,Tryz.results16,go_sem,r0,r1]
    exact gK.lv hR.out (IS.out.set _ _)
   have hR:=aa (show RR=if 65536<(St.b6 (St.dI ps j sF.1.1)).length then((0,[]),3)else((fmt,St.dI ps j sF.1.1),0)by rw[B6.out,if_neg (by simp),if_neg (by simpa using of_decide_eq_true hbb.symm)]);have a0:=gT.zK;have a1:=gT.I9;have y0:=gT.wO;have y3:=gT.wP;haveI l0:=gT.l0;haveI l1:=gT.l1;haveI l2:=gT.l2;have BS:=aa gT;have hn0:0<n:=by omega
   clear hbb gT;go_wp2_with fail;go_cut [23]from 24 (λRQ wx=>ye w w9 fmt (Yr ⟨b,off,Yq⟩) n c ps RQ wx)
   case first=>
    go_region_law (first
     | (refine ej rfl 55 #[Yj (Yr ⟨b,off,Yq⟩) n c] _ (jL.out (w9.alloc (Yo #[Yh Yn 0,Yj Yq 0 0] 25)).drew (BS.out.u.trans uZ)) ?_ ?_;(· go_simp;done);rintro e mD ⟨v10,rfl,mj,hu10⟩;obtain⟨g10,k10,rfl,hg10,hgl10,hoo10⟩:=Dw mj hn0;have Ma:w9.1.size+1<=(w9.alloc (Yo #[Yh Yn 0,Yj Yq 0 0] 25)).drew.1.size:=(by simp);have jn:=(hu10.below.block w9.1.size (by simp)).trans (heap_alloc_new w9 (Yo #[Yh Yn 0,Yj Yq 0 0] 25));have d0:mD.cell? ⟨w9.1.size,0,Yq⟩=Yr (Yh Yn 0):=aj jn 0;have d1:mD.cell? ⟨w9.1.size,1,Yq⟩=Yr (Yj Yq 0 0):=aj jn 1;have f0:mD.frozen? ⟨w9.1.size,0,Yq⟩=false:=bz jn 0;have f1:mD.frozen? ⟨w9.1.size,1,Yq⟩=false:=bz jn 1;have CS:=BS.out.ai (ac.trans uZ hu10);have b0:=CS.zK;haveI k0:=CS.l0;haveI k1:af w9.1.size mD:=af.of (ae jn);refine⟨_,rfl,?_⟩)
     | (refine ej rfl 55 #[Yj (Yr ⟨b,off,Yq⟩) n c] _ (jL.out w9.drew (BS.out.u.trans uZ)) ?_ ?_;(· go_simp;done);rintro e mD ⟨v10,rfl,mj,hu10⟩;obtain⟨g10,k10,rfl,hg10,hgl10,hoo10⟩:=Dw mj hn0;have Ma:w9.1.size<=w9.drew.1.size:=(by simp);have CS:=BS.out.ai (ac.trans uZ hu10);have b0:=CS.zK;haveI k0:=CS.l0;refine⟨_,rfl,?_⟩))
    all_goals
     go_wp2_with fail;go_meet
     first
      | exact Ef BS.out hoo10 Ma (ac.trans uZ hu10) hn0
      | exact GC BS.out hoo10 Ma (ac.trans uZ hu10) hn0
   case rest=>
    obtain⟨gd,g,cap,cur,rfl,hgd,xx,hne,hgdh,hgh,hcs,hncap,hcap,hct,eG,C3⟩:=hcut;have mN:=Mx ps j sF.1.1;have hsl:=sn ps j sF.1.1;have hp:=Eg (s:=sF.1.1) hn (by omega:j<n) hgh hcs hncap hcap hct;rw[bn]at hp;have kg:=C3.setCell (p:=⟨g,j*3+2,Yq⟩) xx (Yi sF);have Fp:=(heap_setCell_other wc ⟨g,j*3+2,Yq⟩ gd (Yi sF) hne).trans hgdh;have hds:=BS.out.ai kg;have d0:wc.cell? ⟨gd,0,Yq⟩=Yr (Yh Yn fmt):=aj hgdh 0;have d1:wc.cell? ⟨gd,1,Yq⟩=Yr (Yj (Yr ⟨g,0,Yq⟩) n cap):=aj hgdh 1;have e2:wc.frozen? ⟨g,j*3+2,Yq⟩=false:=bz hgh (j*3+2);obtain⟨v2,hv2⟩:∃v2,wc.cell? ⟨g,j*3+2,Yq⟩=Yr v2:=⟨_,(aj hgh (j*3+2)).trans (Array.getElem?_eq_getElem (by omega))⟩;have s0:(wc.setCell ⟨g,j*3+2,Yq⟩ (Yi sF)).cell? ⟨gd,0,Yq⟩=Yr (Yh Yn fmt):=aj Fp 0;have s1:(wc.setCell ⟨g,j*3+2,Yq⟩ (Yi sF)).cell? ⟨gd,1,Yq⟩=Yr (Yj (Yr ⟨g,0,Yq⟩) n cap):=aj Fp 1;haveI m0:af gd wc:=af.of (ae hgdh);haveI m1:af g wc:=af.of (ae hgh);have Vz:=aa hds;have To:=aa hp;have Tc:=aa Fp;clear eG C3 kg hds Fp hp hgdh hgh hct a0 a1 y0 y3 l0 l1 l2;go_wp2_with fail;generalize wc.setCell ⟨g,j*3+2,Yq⟩ (Yi sF)=w11 at *;refine(rJ fmt (Yr ⟨g,0,Yq⟩) n cap (St.dI ps j sF.1.1) w11 (by omega) To.out (by omega) (by omega)).mono ?_;rintro e R7 ⟨rfl,hu12⟩;have qB:=Vz.out.ai hu12;have G8:=(hu12.below.block gd (ae Tc.out)).trans Tc.out;have UJ:=aa (To.out.ai hu12);have t0:R7.cell? ⟨gd,0,Yq⟩=Yr (Yh Yn fmt):=aj G8 0;have t1:R7.cell? ⟨gd,1,Yq⟩=Yr (Yj (Yr ⟨g,0,Yq⟩) n cap):=aj G8 1;haveI m2:af gd R7:=af.of (ae G8);have hbz:(⟨(St.b6 (St.dI ps j sF.1.1)).toArray⟩:ByteArray).size=(St.b6 (St.dI ps j sF.1.1)).length:=by show(St.b6 (St.dI ps j sF.1.1)).toArray.size=_;simp
    generalize(⟨(St.b6 (St.dI ps j sF.1.1)).toArray⟩:ByteArray)=TF at *;have Ld:=aa qB;have r0:=qB.bH;have r1:=qB.zL;have q0:=qB.f10;have q1:=qB.f11;have y0:=qB.wO;have y3:=qB.wP;haveI l1:=qB.l1;haveI l2:=qB.l2;clear s0 s1 d0 d1 e2 hv2 hu12 G8 qB m0 m1
    by_cases hbig:65536<(St.b6 (St.dI ps j sF.1.1)).length
    ·have QN:=aa (show RR=((0,[]),3)by rw[hR.out,if_pos hbig]);have z1:(65536:Int)<(TF.size:Int):=by omega
     clear hbz hbig hR;go_wp2;refine bodyPost_ret (v:=Ym #[.agg #[Yh Yn 0,Yj Yq 0 0],Yh Yn 3]) ?_ rfl ?_
     ·simp[results,Tryz.results16,go_sem,r0,r1]
     exact gK.lv QN.out (Ld.out.set _ _)
    have QN:=aa (show RR=((fmt,St.dI ps j sF.1.1),0)by rw[hR.out,if_neg hbig]);have z1:¬(65536:Int)<(TF.size:Int):=by omega
    have hE:=aa (λu v=>gH UJ.out Ld.out.b1 u v);clear hbz hbig hR;go_wp2;refine bodyPost_ret (v:=Ym #[.agg #[Yh Yn fmt,Yj (Yr ⟨g,0,Yq⟩) n cap],Yh Yn 0]) ?_ rfl ?_
    ·simp[results,Tryz.results16,go_sem,r0,r1]
    rw[QN.out];exact⟨Yr ⟨g,0,Yq⟩,cap,by simp only;rw[hsl,hn],hE.out _ _,by simp only;omega,hcap,Ld.out.set _ _⟩
  have hR:=aa (show RR=((0,[]),e6)by rw[B6.out,if_pos JP]);have z8:(e6==0)=false:=by simpa using JP
  have z9:(e6 != 0)=true:=by simpa using JP
  have gT:=o6;clear o6 JP;have y0:=gT.wO;have y3:=gT.wP;have r0:=gT.bH;have r1:=gT.zL;have q0:=gT.f10;have q1:=gT.f11;haveI l1:=gT.l1;haveI l2:=gT.l2;have IS:=aa gT;clear gT;go_wp2;refine bodyPost_ret (v:=Ym #[.agg #[Yh Yn 0,Yj Yq 0 0],Yh Yn (e6)]) ?_ rfl ?_
  ·simp[results,Tryz.results16,go_sem,r0,r1]
  exact gK.lv hR.out (IS.out.set _ _)
end
end
section
variable {fmt:Int} {D:List UInt8->St.gr} {S:List UInt8->List St.Pt × Nat × Int}
theorem tr(A B C:Option Addr)(n c m d m2 e0:Nat)(ps:List St.Pt)(k:Int)(rs:List (Int × Int))(ts:List (List St.It))(w:Ys)(hF:mP w fmt D S)(hn:ps.length=n)(hnc:n<=c)(dG:c<=9223372036854775807)(hm:rs.length=m)(hm2:ts.length=m2)(h:bk w A ps)(hB:eQ w B rs)(hC:gJ w C ts)(hl:n<=1000000)(hr:(St.b6 ps).length<=1000000)(fu:m<=20)
  (hts:∀t∈ts,t.length<=1100/\aV t<=20000000) (hen:∀t∈ts,(St.bw fmt t).1.length<=1000000) :
  Calls Tryz.prog 16 #[.agg #[Yh Yn fmt,Yj A n c],Yh Yn k,Yj B m d,Yj C m2 e0] w (gK (St.fQ D S (St.bw fmt) fmt ps k rs ts) w):=by
 by_cases hbad:St.fL S ps≠0\/(St.bO D ps k).2.2.2≠0\/ts.length≠rs.length\/St.dd (St.aA (St.bO D ps k).1) 0 rs=false
 ·exact GK A B C n c m d m2 e0 ps k rs ts w hF hn hnc dG hm hm2 h hB hl hr fu hbad
 have h1:St.fL S ps=0:=Decidable.byContradiction λe=>hbad (.inl e)
 have h2:(St.bO D ps k).2.2.2=0:=Decidable.byContradiction λe=>hbad (.inr (.inl e))
 have h3:ts.length=rs.length:=Decidable.byContradiction λe=>hbad (.inr (.inr (.inl e)))
 have h4:St.dd (St.aA (St.bO D ps k).1) 0 rs=true:=by
  cases hq:St.dd (St.aA (St.bO D ps k).1) 0 rs
  ·exact absurd (.inr (.inr (.inr hq))) hbad
  rfl
 obtain⟨j,hj,rfl,_,iO,hpt⟩:=St.yx h2;obtain rfl:m2=m:=by omega
 exact Jg A B C n c m2 d e0 j ps rs ts w hF hn hnc dG hm hm2 h hB hC hl hr fu hts hen hj h1 h2 iO hpt h4
end
