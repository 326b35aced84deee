/- The law DocumentOrder: walk. Conditions: the library's tables lie at their. -/
import Derived.Test.YthoemdibbldndaaGreatDoorHvDoc
import Derived.Test.YthoemdibbldndaaGreatDoorDocCt
import Derived.Test.YthoemdibbldndaaGreatDoorNpl
set_option linter.all false
set_option maxHeartbeats 0
set_option maxRecDepth 20000
open Go.Value renaming int->Yp,slice->Yr
open Go.IntKind renaming i64->Yv
open Go.Obj renaming cells->Yw
open Option renaming none->Yy,some->Yz
namespace Go.Proofs.YthoemdibbldndaaGreatDoor
open Go.RowKit
theorem IX{w:World}{b off:Nat}{rs:List (Int × Int)}{k:Nat}{r:Int × Int}(h:eC w (Yz ⟨b,off,Yy⟩) rs)(hk:rs[k]?=Yz r):eC w (Yz ⟨b,off+k*2,Yy⟩) [r]:=λ_=>by
 obtain⟨hk1,rfl⟩:=List.getElem?_eq_some_iff.1 hk;obtain⟨b',off',e,hb,hc⟩:=h (by omega);cases e;refine⟨_,_,rfl,hb,λj hj=>?_⟩;have hj:j<1:=hj;obtain rfl:j=0:=by omega
 exact hc k hk1
theorem LN{w:World}{b off:Nat}{ts:List (List St.It)}{k:Nat}{t:List St.It}(h:gk w (Yz ⟨b,off,Yy⟩) ts)(hk:ts[k]?=Yz t):gk w (Yz ⟨b,off+k,Yy⟩) [t]:=λ_=>by
 obtain⟨hk1,rfl⟩:=List.getElem?_eq_some_iff.1 hk;obtain⟨b',off',e,hb,hc⟩:=h (by omega);cases e;refine⟨_,_,rfl,hb,λj hj=>?_⟩;have hj:j<1:=hj;obtain rfl:j=0:=by omega
 exact hc k hk1
def CT(w0:World)(fm:Int)(n q xb zb:Nat)(B1:Option Addr)(e1:Nat)(Z:Nat->List St.Pt)(rH yD:Value)(wr:World):Prop:=∃(j:Nat) (Az:Option Addr) (cz:Nat),j<=q/\rH=Yp Yv 0/\yD=Yp Yv ((j:Int)-1)/\wr.1[xb]?=Yz (Yw #[Yp Yv fm,Yr B1 n e1] 25 (0,0))/\a8 wr B1 (Z 0)/\wr.1[zb]?=Yz (Yw #[Yp Yv fm,Yr Az n cz] 25 (0,0))/\a8 wr Az (Z j)/\n<=cz/\cz<=9223372036854775807/\ac w0 wr
theorem K9(A B:Option Addr)(n c m d:Nat)(zs ys:List Int)(part:Int)(w:World)(hL:Mk.jU w)(hz:zs.length=n)(hn:n<=9223372036854775807)(hI:fu w A zs)(hy:ys.length=m)(hm:m<=9223372036854775807)(hJ:fu w B ys) :
  Calls Tryz.prog 10 #[Yr A n c,Yr B m d,Yp Yv part] w λe w'=>e=.returned (.bool true)/\ac w w':=by
 have tC:=aa hL;have Jy:=aa (λW (hW:ac w W)=>vy W (tC.out.ai hW));have JA:=aa (λW (hW:ac w W)=>vw A n c zs W hz hn (hI.ai hW));have HJ:=aa hJ;have HY:=aa hy;clear hL hI hz hJ hy
 by_cases bad:200<n\/100<m
 ·have Md:(200:Int)<(n:Int)\/(¬(200:Int)<(n:Int)/\(100:Int)<(m:Int)):=by omega
  clear bad;rcases Md with z1|⟨z1,z2⟩
  all_goals
   go_enter Tryz.func10,Tryz.ntmps10;go_wp2_with fail;refine(Jy.out _ (ac.refl _)).mono ?_;rintro e w2 ⟨rfl,hu⟩;have HU:=aa hu;clear hu;go_wp2;go_ret;exact⟨rfl,HU.out⟩
 have z1:¬(200:Int)<(n:Int):=by omega
 have z2:¬(100:Int)<(m:Int):=by omega
 obtain⟨i9,h9a,h9b,h9c,h9d⟩:=info_parts sc;go_enter Tryz.func10,Tryz.ntmps10;go_wp2_with fail;refine(JA.out _ (ac.refl _)).mono ?_;rintro e w2 ⟨fm,A2,c2,ps,rfl,hM,hP2,k1,k2,hu2⟩;have hrl:=hM.from.raw
 have hpl:=hM.from.len
 have hkn:=hM.kn;have HM:=aa hM;have fS:=aa hP2;have aX:=aa hu2;have hs2:=hu2.size;have hun:=aa (λW (hW:ac w2 W)=>yM fm A2 ps.length c2 ps part W rfl (fS.out.ai hW) (by omega));clear hM hP2 hu2 JA;go_wp2_with fail;have vx:=heap_alloc_new w2 (Yw #[Yp Yv fm,Yr A2 ps.length c2] 25);have jl:ac w2 (w2.alloc (Yw #[Yp Yv fm,Yr A2 ps.length c2] 25)):=(ac.refl _).alloc _;generalize w2.alloc (Yw #[Yp Yv fm,Yr A2 ps.length c2] 25)=ws at *;obtain⟨xd,hxd⟩:∃xd,xd=w2.1.size:=⟨_,rfl⟩;rw[<-hxd]at vx |-;have HX:=aa vx;have xn:=aa jl;clear jl vx hxd;refine(hun.out _ xn.out).mono ?_;rintro e w3 ⟨rfl,hu3⟩;have bm:=aa hu3;generalize Cr ps part=uk;have hb3:=(hu3.below.block xd (ae HX.out)).trans HX.out;have d0:w3.cell? ⟨xd,0,Yy⟩=Yz (Yp Yv fm):=by rw[aj hb3];rfl
 have d1:w3.cell? ⟨xd,1,Yy⟩=Yz (Yr A2 ps.length c2):=by rw[aj hb3];rfl
 haveI:af xd w3:=af.of (ae hb3);have hrc:=uC fm A2 ps.length c2 ps uk w3 rfl (fS.out.ai (xn.out.trans hu3)) (by omega) (by omega);have DO:=λh0=>HM.out.unit (k:=(uk:Int)) h0
 have gY:=aa DO;obtain⟨pe,wi⟩:=C1 hkn ps uk;generalize Kj:CD fm ps uk=RC at hrc pe wi;obtain⟨f,cu,pl,er⟩:=RC;simp only at pe wi;have JE:=aa hrc;have qS:=aa Kj;clear hrc hu3 hb3 hun DO Kj;go_wp2_with fail;refine JE.out.mono ?_;rintro e w4 ⟨A5,c5,rfl,lg,h51,h52,bj⟩;simp only at lg h51 |-;have ea:=aa (xn.out.trans (bm.out.trans bj));have CS:=aa (((bm.out.trans bj).below.block xd (ae HX.out)).trans HX.out);have vo:=aa lg;have CG:=aa (λW (hW:ac w4 W)=>Jy.out W ((aX.out.trans ea.out).trans hW));clear bj lg d0 d1 HX xn bm JE
 by_cases he:er=0
 ·subst he;obtain⟨p,us,i,f',qs,q,hps,hki,hD,h10,o0,hzz,hU⟩:=gY.out (by rw[qS.out]);have DA:f=f':=by rw[qS.out]at hU;exact(Prod.mk.inj hU).1
  subst DA;have vn:=aa hD;have vq:=aa hps;have FI:=aa hki;have yb:=CS.out;have d0:w4.cell? ⟨xd,0,Yy⟩=Yz (Yp Yv fm):=by rw[aj yb];rfl
  have d1:w4.cell? ⟨xd,1,Yy⟩=Yz (Yr A2 ps.length c2):=by rw[aj yb];rfl
  haveI:af xd w4:=af.of (ae yb);clear hD hU hps hki gY qS;have hpc:=yv (w4.1.size+1) w4.1.size 0 f.length c5 false A5 f (w4.alloc (Yw #[Yr B m d,Yp Yv 0] 61)) (bp.fresh hm HY.out (HJ.out.ai (aX.out.trans ea.out))) (by omega) rfl (vo.out.ai ((ac.refl _).alloc _)) (λh0 b off e=>by obtain⟨b',off',e',hb,_⟩:=vo.out h0;rw[e]at e';cases e';omega) (by omega) (by omega) (λhh=>by cases hh);have JD:=aa hpc;clear hpc yb;go_wp2_with fail;refine JD.out.mono ?_;rintro e w5 ⟨Ar,Ag,ca,cg,rs,ts,rfl,hRs,hTs,hll,h3,Ku,hcg,hca2,hcg2,has,hft,uc,hgb⟩;have bt:ac w4 w5:=((ac.refl w4).alloc _).sr hgb (λg e=>by cases e;omega);have kV:=aa hRs;have sW:=aa hTs;have HAS:=aa has;have de:=aa bt;have Ay:=aa ((bt.below.block xd (ae CS.out)).trans CS.out);have CF:=aa (vo.out.ai bt);clear hRs hTs hgb bt JD d0 d1 has;have Rm:∀t∈ts,t.length<=1100/\aY t<=20000000:=λt ht=>by have:=uc t ht;exact⟨by omega,by omega⟩
  have RG:=λj=>St.zT vn.out h10 o0 hzz HAS.out (hft rfl) h3 j
  have hos:=λj r t=>St.Nh (j:=j) (r:=r) (t:=t) vn.out h10 o0 hzz HAS.out (hft rfl) h3
  rw[<-FI.out]at hos;have jE:=(RG 0).1;rw[<-vq.out,<-FI.out,List.drop_zero,List.drop_zero]at jE;have KJ:∀j,(St.b8 (St.bc p (St.lH fm us i qs rs ts j))).length<=65536:=λj=>by rw[St.jn];exact(RG j).2.size
  have RJ:∀j,(St.bc p (St.lH fm us i qs rs ts j)).length=ps.length:=λj=>by rw[vq.out];unfold St.lH;rw[<-St.fG];simp[St.dH]
  have hend:St.bc p (St.lH fm us i qs rs ts ts.length)=ps:=by
   obtain⟨u,hu,hf,_⟩:=vn.out.part;have hm:St.bL (St.fM fm) qs 0 [] []=qs:=by simp[St.bL]
   have:St.lH fm us i qs rs ts ts.length=us:=by
    unfold St.lH;rw[List.drop_of_length_le (by omega),List.drop_of_length_le (by omega),hm,<-hf.flat];exact St.BN hu
   rw[this,vq.out]
  obtain⟨Z,hZ⟩:∃Z:Nat->List St.Pt,∀j,Z j=St.bc p (St.lH fm us i qs rs ts j):=⟨_,λ_=>rfl⟩;simp only[<-hZ]at hos jE KJ RJ hend;have VU:=aa hos;have V0:=aa KJ;have qW:=aa RJ;have Wf:=aa hend;clear RG hos hft hZ KJ RJ hend;have g1:=λW (hW:ac w5 W)=>l8 fm hkn A2 Ar Ag ps.length c2 ts.length ca ts.length cg ps uk rs ts W (tC.out.ai (aX.out.trans (ea.out.trans (de.out.trans hW)))) rfl k1 k2 hll rfl (fS.out.ai (ea.out.trans (de.out.trans hW))) (kV.out.ai hW) (sW.out.ai hW) hpl hrl (by omega) Rm
  simp only[jE]at g1;unfold fV at g1;simp only[qW.out]at g1;have G1:=aa g1;clear g1 jE;have d0:w5.cell? ⟨xd,0,Yy⟩=Yz (Yp Yv fm):=by rw[aj Ay.out];rfl
  have d1:w5.cell? ⟨xd,1,Yy⟩=Yz (Yr A2 ps.length c2):=by rw[aj Ay.out];rfl
  haveI:af xd w5:=af.of (ae Ay.out);go_wp2_with fail;refine(G1.out _ (ac.refl _)).mono ?_;rintro e v1 ⟨B1,e1,rfl,Dr,ha1,hc1,hu1⟩;have hle:=hu1.size;have Dv:=heap_alloc_new v1 (Yw #[Yp Yv fm,Yr B1 ps.length e1] 25);have DP:ac w5 (v1.alloc (Yw #[Yp Yv fm,Yr B1 ps.length e1] 25)):=hu1.alloc _;have Hb:=aa (Dr.ai ((ac.refl v1).alloc (Yw #[Yp Yv fm,Yr B1 ps.length e1] 25)));have qX:=aa DP;have Ir:v1.1.size<(v1.alloc (Yw #[Yp Yv fm,Yr B1 ps.length e1] 25)).1.size:=by simp
  have G6:=aa Dv;clear d0 d1 Dr hu1 Dv DP G1;have hx2:=(qX.out.below.block xd (ae Ay.out)).trans Ay.out;have d0:(v1.alloc (Yw #[Yp Yv fm,Yr B1 ps.length e1] 25)).cell? ⟨xd,0,Yy⟩=Yz (Yp Yv fm):=by rw[aj hx2];rfl
  have d1:(v1.alloc (Yw #[Yp Yv fm,Yr B1 ps.length e1] 25)).cell? ⟨xd,1,Yy⟩=Yz (Yr A2 ps.length c2):=by rw[aj hx2];rfl
  haveI:af xd (v1.alloc (Yw #[Yp Yv fm,Yr B1 ps.length e1] 25)):=af.of (ae hx2);clear hx2;go_wp2_with fail;have oc:v1.1.size+1≠v1.1.size:=by omega
  have hst:CT w5 fm ps.length ts.length v1.1.size (v1.1.size+1) B1 e1 Z (Yp Yv 0) (Yp Yv ((ts.length:Int)-1)) ((v1.alloc (Yw #[Yp Yv fm,Yr B1 ps.length e1] 25)).alloc (Yw #[Yp Yv fm,Yr A2 ps.length c2] 25)):=
   ⟨ts.length,A2,c2,Nat.le_refl _,rfl,rfl,(fB _ _ _ Ir).trans G6.out,Hb.out.ai ((ac.refl _).alloc _),bG _ _ _ (by simp),by rw[Wf.out];exact fS.out.ai (ea.out.trans (de.out.trans (qX.out.alloc _))),k1,k2,qX.out.alloc _⟩
  have HST:=aa hst;generalize vx:v1.1.size=xb at *;generalize hzb:xb+1=zb at *;clear hst Ir d0 d1 Hb G6 qX;go_loopw [14,16] (λrH yD wr=>CT w5 fm ps.length ts.length xb zb B1 e1 Z rH yD wr) (λ_ yD _=>(intOf yD+1).toNat)
  case atStart=>exact HST.out
  case round=>
   obtain⟨j,Az,cz,hj,rfl,rfl,dj,hpx,hbz,hpz,hz1,hz2,hu⟩:=hrel;have kT:=aa dj;have TK:=aa hpx;have Tv:=aa hbz;have TL:=aa hpz;have HU:=aa hu;have a1:wr.cell? ⟨xb,0,Yy⟩=Yz (Yp Yv fm):=aj dj 0;have b1:wr.cell? ⟨xb,1,Yy⟩=Yz (Yr B1 ps.length e1):=aj dj 1;haveI l1:af xb wr:=af.of (ae dj);have a2:wr.cell? ⟨zb,0,Yy⟩=Yz (Yp Yv fm):=aj hbz 0;have b2:wr.cell? ⟨zb,1,Yy⟩=Yz (Yr Az ps.length cz):=aj hbz 1;haveI l2:af zb wr:=af.of (ae hbz);clear dj hpx hbz hpz hu HST
   by_cases DD:j=0
   ·subst DD;have y1:¬((0:Int)<=((0:Nat):Int)-1):=by omega
    go_wp2_with fail;have hsm:=yy fm fm B1 Az ps.length ps.length e1 cz (Z 0) (Z 0) wr (qW.out 0) (qW.out 0) ha1 hz1 hc1 hz2 TK.out TL.out;rw[decide_eq_true (p:=fm=fm/\Z 0=Z 0) ⟨rfl,rfl⟩]at hsm;refine hsm.mono ?_;rintro e w6 ⟨rfl,dQ⟩;have dS:=aa (de.out.trans (HU.out.trans dQ));clear dQ hsm;go_wp2_with fail;refine(CG.out _ dS.out).mono ?_;rintro e w7 ⟨rfl,bR⟩;have HE:=aa ((aX.out.trans ea.out).trans (dS.out.trans bR));clear bR;go_wp2;go_ret;exact⟨rfl,HE.out⟩
   obtain⟨k,rfl⟩:∃k,j=k+1:=⟨j-1,by omega⟩;have hk1:k<rs.length:=by omega
   have hk2:k<ts.length:=by omega
   obtain⟨r,hr⟩:∃r,rs[k]?=Yz r:=⟨_,List.getElem?_eq_getElem hk1⟩;obtain⟨t,ht⟩:∃t,ts[k]?=Yz t:=⟨_,List.getElem?_eq_getElem hk2⟩;obtain⟨br,or',rfl,_⟩:=kV.out (by omega);obtain⟨bg,og,rfl,_⟩:=sW.out (by omega);have RQ:=IX kV.out hr;have zH:=LN sW.out ht;have KL:=Rm t (List.mem_of_getElem? ht);have hzl:(St.b8 (Z (k+1))).length<=1000000:=by have:=V0.out (k+1);omega
   have g2:=λW (hW:ac wr W)=>l8 fm hkn Az (Yz ⟨br,or'+k*2,Yy⟩) (Yz ⟨bg,og+k,Yy⟩) ps.length cz 1 (ca-k) 1 (cg-k) (Z (k+1)) uk [r] [t] W (tC.out.ai (aX.out.trans (ea.out.trans (de.out.trans (HU.out.trans hW))))) (qW.out (k+1)) hz1 hz2 rfl rfl (TL.out.ai hW) (RQ.ai (HU.out.trans hW)) (zH.ai (HU.out.trans hW)) hpl hzl (by omega) (λu hu=>by simp at hu;subst hu;exact KL)
   have hos:=VU.out k r t hr ht;simp only[hos]at g2;unfold fV at g2;simp only[qW.out]at g2;have G2:=aa g2;have y1:(0:Int)<=((k+1:Nat):Int)-1:=by omega
   have y2:((k+1:Nat):Int)-1=(k:Int):=by omega
   clear g2 hos RQ zH KL hzl DD;rw[y2];rw[y2]at y1;clear y2;go_wp2_with fail;have q1:IntKind.i64.wrap ((k:Int)+1)=(k:Int)+1:=IntWalk.i64_in _ (by omega);have q2:(0:Int)<=(k:Int)+1:=by omega
   have q3:(k:Int)+1<=(ca:Int):=by omega
   have q4:(k:Int)+1<=(cg:Int):=by omega
   have q5:k<=((k:Int)+1).toNat:=by omega
   have q6:((k:Int)+1).toNat-k=1:=by omega
   have q7:¬ca=k:=by omega
   have q8:¬cg=k:=by omega
   go_region_law (refine eR rfl 16 #[.agg #[Yp Yv fm,Yr Az ps.length cz],Yp Yv uk,Yr (Yz ⟨br,or'+k*2,Yy⟩) 1 (ca-k),Yr (Yz ⟨bg,og+k,Yy⟩) 1 (cg-k)] _ (G2.out _ (uZ)) ?_ ?_;(· go_simp;done);rintro e w6 ⟨A6,e6,rfl,hP6,ha6,hc6,dQ⟩;have pt:ac wr w6:=ac.trans (uZ) dQ;have r7:=(pt.below.block zb (ae Tv.out)).trans Tv.out;have f0:w6.frozen? ⟨zb,0,Yy⟩=false:=bu r7 0;have f1:w6.frozen? ⟨zb,1,Yy⟩=false:=bu r7 1;have c0:w6.cell? ⟨zb,0,Yy⟩=Yz (Yp Yv fm):=aj r7 0;have c1:w6.cell? ⟨zb,1,Yy⟩=Yz (Yr Az ps.length cz):=aj r7 1;haveI:af zb w6:=af.of (ae r7);refine⟨_,rfl,?_⟩)
   all_goals
    have Yc:zb≠xb:=by omega
    have hrel:CT w5 fm ps.length ts.length xb zb B1 e1 Z (Yp Yv 0) (Yp Yv ((k:Int)-1)) ((w6.setCell ⟨zb,0,Yy⟩ (Yp Yv fm)).setCell ⟨zb,1,Yy⟩ (Yr A6 ps.length e6)):=
     ⟨k,A6,e6,by omega,rfl,rfl,by rw[heap_setCell_other _ _ _ _ (by simpa using oc.symm),heap_setCell_other _ _ _ _ (by simpa using oc.symm)];exact(pt.below.block xb (ae kT.out)).trans kT.out,fG (TK.out.ai pt) r7 _ _,heap_setCell_same _ _ 1 _ _ _ (heap_setCell_same _ _ 0 _ _ _ r7),fG hP6 r7 _ _,ha6,hc6,((HU.out.trans pt).setCell (p:=⟨zb,0,Yy⟩) (by show w5.1.size<=zb;omega) _).setCell (p:=⟨zb,1,Yy⟩) (by show w5.1.size<=zb;omega) _⟩
    have bw:=aa hrel;clear hrel hP6 dQ pt r7 f0 f1 c0 c1;go_wp2;exact⟨bw.out,by simp[intOf]⟩
 have z3:(er==0)=false:=by simpa using he
 have z4:(er != 0)=true:=by simpa using he
 go_wp2_with fail;refine(CG.out _ (ac.refl _)).mono ?_;rintro e w5 ⟨rfl,hu⟩;have HU:=aa ((aX.out.trans ea.out).trans hu);clear hu;go_wp2;go_ret;exact⟨rfl,HU.out⟩
