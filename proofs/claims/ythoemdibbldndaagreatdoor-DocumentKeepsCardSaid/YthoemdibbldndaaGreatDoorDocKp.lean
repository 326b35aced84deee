/- The law DocumentKeeps: walk. Conditions: the library's tables lie at their. -/
import Derived.Test.YthoemdibbldndaaGreatDoorHvDoc
import Derived.Test.YthoemdibbldndaaGreatDoorDocCt
import Derived.Test.YthoemdibbldndaaGreatDoorNpl
import Derived.Test.YthoemdibbldndaaGreatDoorLwRp
import Derived.Test.YthoemdibbldndaaGreatDoorRefNumG
set_option linter.all false
set_option maxHeartbeats 0
set_option maxRecDepth 20000
open Go.Value renaming int->Yh,slice->Yj
open Go.IntKind renaming i64->Yn
open Go.Obj renaming cells->Yo
open Option renaming none->Yq,some->Yr
namespace Go.Proofs.YthoemdibbldndaaGreatDoor
open Go.RowKit
theorem St.MQ(us:List St.Wu)(p:List UInt8)(i:Nat)(s:List UInt8):(St.bo p (St.fF us i s)).length=(St.bo p us).length/\∀(j:Nat) (x y:St.Pt),(St.bo p (St.fF us i s))[j]?=Yr x->(St.bo p us)[j]?=Yr y->x.1=y.1/\x.2.1=y.2.1/\(j≠2*i+1->x=y):=by
 rw[<-St.gH];unfold St.dI;refine⟨by simp,λj x y hx hy=>?_⟩;rw[List.getElem?_modify,hy]at hx;simp only[Option.map_eq_map,Option.map_some,Option.some.injEq]at hx
 by_cases h:2*i+1=j
 ·rw[if_pos h]at hx;subst hx;exact⟨rfl,rfl,λhh=>absurd h.symm hh⟩
 rw[if_neg h]at hx;subst hx;exact⟨rfl,rfl,λ_=>rfl⟩
theorem Kb(A B:Option Addr)(n c m d:Nat)(zs ys:List Int)(part:Int)(w:World)(hL:Mk.jQ w)(hz:zs.length=n)(hn:n<=9223372036854775807)(hI:fq w A zs)(hy:ys.length=m)(hm:m<=9223372036854775807)(hJ:fq w B ys) :
  Calls Tryz.prog 8 #[Yj A n c,Yj B m d,Yh Yn part] w λe w'=>e=.returned (.bool true)/\ac w w':=by
 have BZ:=aa hL;have Tg:=aa (λW (hW:ac w W)=>Em W (BZ.out.ai hW));have Tj:=aa (λW (hW:ac w W)=>Ej A n c zs W hz hn (hI.ai hW));have HJ:=aa hJ;have HY:=aa hy;clear hL hI hz hJ hy
 by_cases bad:200<n\/100<m
 ·have UR:(200:Int)<(n:Int)\/(¬(200:Int)<(n:Int)/\(100:Int)<(m:Int)):=by omega
  clear bad;rcases UR with z1|⟨z1,z2⟩
  all_goals
   go_enter Tryz.func8,Tryz.ntmps8;go_wp2_with fail;refine(Tg.out _ (ac.refl _)).mono ?_;rintro e w2 ⟨rfl,hu⟩;have HU:=aa hu;clear hu;go_wp2;go_ret;exact⟨rfl,HU.out⟩
 have z1:¬(200:Int)<(n:Int):=by omega
 have z2:¬(100:Int)<(m:Int):=by omega
 obtain⟨i9,h9a,h9b,h9c,h9d⟩:=info_parts xE;go_enter Tryz.func8,Tryz.ntmps8;go_wp2_with fail;refine(Tj.out _ (ac.refl _)).mono ?_;rintro e w2 ⟨fm,A2,c2,ps,rfl,hM,hP2,k1,k2,hu2⟩;have hrl:=hM.from.raw
 have hpl:=hM.from.len
 have hkn:=hM.kn;have HM:=aa hM;have gR:=aa hP2;have aX:=aa hu2;have hs2:=hu2.size;have hun:=aa (λW (hW:ac w2 W)=>IG fm A2 ps.length c2 ps part W rfl (gR.out.ai hW) (by omega));clear hM hP2 hu2 Tj;go_wp2_with fail;have Ax:=heap_alloc_new w2 (Yo #[Yh Yn fm,Yj A2 ps.length c2] 25);have kg:ac w2 (w2.alloc (Yo #[Yh Yn fm,Yj A2 ps.length c2] 25)):=(ac.refl _).alloc _;generalize w2.alloc (Yo #[Yh Yn fm,Yj A2 ps.length c2] 25)=ws at *;obtain⟨xd,hxd⟩:∃xd,xd=w2.1.size:=⟨_,rfl⟩;rw[<-hxd]at Ax |-;have HX:=aa Ax;have Ny:=aa kg;clear kg Ax hxd;refine(hun.out _ Ny.out).mono ?_;rintro e w3 ⟨rfl,hu3⟩;have a7:=aa hu3;generalize IH ps part=uk;have hb3:=(hu3.below.block xd (ae HX.out)).trans HX.out;have d0:w3.cell? ⟨xd,0,Yq⟩=Yr (Yh Yn fm):=by rw[aj hb3];rfl
 have d1:w3.cell? ⟨xd,1,Yq⟩=Yr (Yj A2 ps.length c2):=by rw[aj hb3];rfl
 haveI:af xd w3:=af.of (ae hb3);have hrc:=DF fm A2 ps.length c2 ps uk w3 rfl (gR.out.ai (Ny.out.trans hu3)) (by omega) (by omega);have Rz:=λh0=>HM.out.unit (k:=(uk:Int)) h0
 have iI:=aa Rz;obtain⟨tH,G3⟩:=Lp hkn ps uk;generalize TM:CD fm ps uk=RC at hrc tH G3;obtain⟨f,cu,pl,er⟩:=RC;simp only at tH G3;have Tv:=aa hrc;have ww:=aa TM;clear hrc hu3 hb3 hun Rz TM;go_wp2_with fail;refine Tv.out.mono ?_;rintro e w4 ⟨A5,c5,rfl,nL,h51,h52,bf⟩;simp only at nL h51 |-;have fj:=aa (Ny.out.trans (a7.out.trans bf));have Qi:=aa (((a7.out.trans bf).below.block xd (ae HX.out)).trans HX.out);have EP:=aa nL;have PQ:=aa (λW (hW:ac w4 W)=>Tg.out W ((aX.out.trans fj.out).trans hW));clear bf nL d0 d1 HX Ny a7 Tv
 by_cases he:er=0
 ·subst he;obtain⟨p,us,i,f',qs,q,hps,hki,hD,h10,QD,hzz,iO⟩:=iI.out (by rw[ww.out]);have JR:f=f':=by rw[ww.out]at iO;exact(Prod.mk.inj iO).1
  subst JR;have Nn:=aa hD;have EX:=aa hps;have PP:=aa hki;have Ob:=Qi.out;have d0:w4.cell? ⟨xd,0,Yq⟩=Yr (Yh Yn fm):=by rw[aj Ob];rfl
  have d1:w4.cell? ⟨xd,1,Yq⟩=Yr (Yj A2 ps.length c2):=by rw[aj Ob];rfl
  haveI:af xd w4:=af.of (ae Ob);clear hD iO hps hki iI ww;have hpc:=H6 (w4.1.size+1) w4.1.size 0 f.length c5 false A5 f (w4.alloc (Yo #[Yj B m d,Yh Yn 0] 61)) (bp.fresh hm HY.out (HJ.out.ai (aX.out.trans fj.out))) (by omega) rfl (EP.out.ai ((ac.refl _).alloc _)) (λh0 b off e=>by obtain⟨b',off',e',hb,_⟩:=EP.out h0;rw[e]at e';cases e';omega) (by omega) (by omega) (λhh=>by cases hh);have Tq:=aa hpc;clear hpc Ob;go_wp2_with fail;refine Tq.out.mono ?_;rintro e w5 ⟨Ar,Ag,ca,cg,rs,ts,rfl,hRs,hTs,hll,h3,NW,hcg,hca2,hcg2,has,hft,Fo,hgb⟩;have bg:ac w4 w5:=((ac.refl w4).alloc _).uG hgb (λg e=>by cases e;omega);have mH:=aa hRs;have pK:=aa hTs;have HAS:=aa has;have dh:=aa bg;have zF:=aa ((bg.below.block xd (ae Qi.out)).trans Qi.out);have EQ:=aa (EP.out.ai bg);clear hRs hTs hgb bg Tq d0 d1 has;obtain⟨mL,hd'⟩:=St.OI Nn.out h10 QD hzz HAS.out (hft rfl) h3;have QW:∀t∈ts,t.length<=1100/\aV t<=20000000:=λt ht=>by have:=Fo t ht;exact⟨by omega,by omega⟩
  have T4:=St.xU (St.oB f rs ts) hd'.unit.choose_spec.2.ok;rw[<-EX.out,<-PP.out]at mL;have g1:=λW (hW:ac w5 W)=>Cw fm hkn A2 Ar Ag ps.length c2 ts.length ca ts.length cg ps uk rs ts W (BZ.out.ai (aX.out.trans (fj.out.trans (dh.out.trans hW)))) rfl k1 k2 hll rfl (gR.out.ai (fj.out.trans (dh.out.trans hW))) (mH.out.ai hW) (pK.out.ai hW) hpl hrl (by omega) QW
  simp only[mL]at g1
  have iO:CD fm (St.bo p (St.fF us i (St.a8 (St.cG (St.fI fm) qs 0 rs ts)))) (uk:Int)=(St.cd f rs ts,(List.range ((St.cG (St.fI fm) qs 0 rs ts).length+1)).map (St.cz (St.cG (St.fI fm) qs 0 rs ts)),0,0):=by
   unfold CD;rw[if_pos hkn,PP.out];exact hd'.cont
  have Ub:=hd'.valid
  have T5:(St.b6 (St.bo p (St.fF us i (St.a8 (St.cG (St.fI fm) qs 0 rs ts))))).length<=1000000000:=by
   rw[St.kq];have:=hd'.size
   omega
  have pW:=St.MQ us p i (St.a8 (St.cG (St.fI fm) qs 0 rs ts));rw[<-EX.out]at pW;have Ra:uk=2*i+1:=by have:=PP.out;omega
  rw[<-Ra]at pW;obtain⟨TH,hcu2⟩:∃TH,TH=(List.range ((St.cG (St.fI fm) qs 0 rs ts).length+1)).map (St.cz (St.cG (St.fI fm) qs 0 rs ts)):=⟨_,rfl⟩;rw[<-hcu2]at iO;clear hcu2 hft hd' mL Ra;generalize St.bo p (St.fF us i (St.a8 (St.cG (St.fI fm) qs 0 rs ts)))=ps' at *;have LZ:ps'.length=ps.length:=pW.1;have PO:=aa pW.2;unfold gK at g1;simp only[LZ]at g1;have Lf:=aa LZ;clear LZ;have G1:=aa g1;have Uu:=aa iO;have V0:=aa Ub;have VS:=aa T4;clear g1 iO Ub T4 pW;have d0:w5.cell? ⟨xd,0,Yq⟩=Yr (Yh Yn fm):=by rw[aj zF.out];rfl
  have d1:w5.cell? ⟨xd,1,Yq⟩=Yr (Yj A2 ps.length c2):=by rw[aj zF.out];rfl
  haveI:af xd w5:=af.of (ae zF.out);go_wp2_with fail;refine(G1.out _ (ac.refl _)).mono ?_;rintro e v1 ⟨B1,e1,rfl,NT,ha1,hc1,hu1⟩;have vw:=heap_alloc_new v1 (Yo #[Yh Yn fm,Yj B1 ps.length e1] 25);have RA:ac w5 (v1.alloc (Yo #[Yh Yn fm,Yj B1 ps.length e1] 25)):=hu1.alloc _;have Lg:=aa (NT.ai ((ac.refl v1).alloc (Yo #[Yh Yn fm,Yj B1 ps.length e1] 25)));have pL:=aa RA;have L0:v1.1.size<(v1.alloc (Yo #[Yh Yn fm,Yj B1 ps.length e1] 25)).1.size:=by simp
  have Gg:=aa vw;clear d0 d1 NT hu1 vw RA G1;have hx2:=(pL.out.below.block xd (ae zF.out)).trans zF.out;have d0:(v1.alloc (Yo #[Yh Yn fm,Yj B1 ps.length e1] 25)).cell? ⟨xd,0,Yq⟩=Yr (Yh Yn fm):=by rw[aj hx2];rfl
  have d1:(v1.alloc (Yo #[Yh Yn fm,Yj B1 ps.length e1] 25)).cell? ⟨xd,1,Yq⟩=Yr (Yj A2 ps.length c2):=by rw[aj hx2];rfl
  haveI:af xd (v1.alloc (Yo #[Yh Yn fm,Yj B1 ps.length e1] 25)):=af.of (ae hx2);have a1:(v1.alloc (Yo #[Yh Yn fm,Yj B1 ps.length e1] 25)).cell? ⟨v1.1.size,0,Yq⟩=Yr (Yh Yn fm):=by rw[aj Gg.out];rfl
  have b1:(v1.alloc (Yo #[Yh Yn fm,Yj B1 ps.length e1] 25)).cell? ⟨v1.1.size,1,Yq⟩=Yr (Yj B1 ps.length e1):=by rw[aj Gg.out];rfl
  haveI l1:af v1.1.size (v1.alloc (Yo #[Yh Yn fm,Yj B1 ps.length e1] 25)):=af.of L0;clear hx2;go_wp2_with fail;have PR:=aa (BZ.out.ai (aX.out.trans (fj.out.trans (dh.out.trans pL.out))));have hvl:=zU B1 ps.length e1 ps' _ (Vo fm _ hkn PR.out PR.out.1) Lf.out ha1 hc1 Lg.out (by omega) T5;rw[V0.out]at hvl;refine hvl.mono ?_;rintro e z1 ⟨rfl,hz1⟩;have V5:=aa hz1;have Q3:=(hz1.below.block v1.1.size L0).trans Gg.out;have Q4:=((pL.out.trans hz1).below.block xd (ae zF.out)).trans zF.out;have Tr:=aa (Lg.out.ai hz1);have VN:=aa (gR.out.ai (fj.out.trans (dh.out.trans (pL.out.trans hz1))));have yf:=aa Q3;have BQ:=aa Q4;have eu:=aa (dh.out.trans (pL.out.trans hz1));have Nq:=aa (EQ.out.ai (pL.out.trans hz1));have UM:=aa (mH.out.ai (pL.out.trans hz1));have UP:=aa (pK.out.ai (pL.out.trans hz1));obtain⟨xb,Ax⟩:∃xb,xb=v1.1.size:=⟨_,rfl⟩;rw[<-Ax]at yf |-;clear hz1 hvl Q3 Q4 a1 b1 l1 d0 d1 PR Lg Gg pL V5 L0 Ax zF EQ mH pK;have a1:z1.cell? ⟨xb,0,Yq⟩=Yr (Yh Yn fm):=by rw[aj yf.out];rfl
  have b1:z1.cell? ⟨xb,1,Yq⟩=Yr (Yj B1 ps.length e1):=by rw[aj yf.out];rfl
  haveI l1:af xb z1:=af.of (ae yf.out);have d0:z1.cell? ⟨xd,0,Yq⟩=Yr (Yh Yn fm):=by rw[aj BQ.out];rfl
  have d1:z1.cell? ⟨xd,1,Yq⟩=Yr (Yj A2 ps.length c2):=by rw[aj BQ.out];rfl
  haveI l2:af xd z1:=af.of (ae BQ.out);go_wp2_with fail;go_loopw [83] (λRS wr=>∃j:Nat,j<=ps.length/\RS=Yh Yn j/\ac z1 wr) (λRS _=>ps.length+1-(intOf RS).toNat)
  case atStart=>exact⟨0,by omega,rfl,ac.refl _⟩
  case round=>
   obtain⟨j,hj,rfl,hu⟩:=hrel;have HU:=aa hu;clear a1 b1 l1 d0 d1 l2;have vw:=(hu.below.block xb (ae yf.out)).trans yf.out;have G2:=(hu.below.block xd (ae BQ.out)).trans BQ.out;have a1:wr.cell? ⟨xb,0,Yq⟩=Yr (Yh Yn fm):=by rw[aj vw];rfl
   have b1:wr.cell? ⟨xb,1,Yq⟩=Yr (Yj B1 ps.length e1):=by rw[aj vw];rfl
   haveI l1:af xb wr:=af.of (ae vw);have d0:wr.cell? ⟨xd,0,Yq⟩=Yr (Yh Yn fm):=by rw[aj G2];rfl
   have d1:wr.cell? ⟨xd,1,Yq⟩=Yr (Yj A2 ps.length c2):=by rw[aj G2];rfl
   haveI l2:af xd wr:=af.of (ae G2);clear vw G2 hu
   by_cases hlt:j<ps.length
   ·have y1:(j:Int)<(ps.length:Int):=by omega
    have aI:j<ps'.length:=by rw[Lf.out];exact hlt
    obtain⟨x,hx⟩:∃x,ps'[j]?=Yr x:=⟨_,List.getElem?_eq_getElem aI⟩;obtain⟨y,hy⟩:∃y,ps[j]?=Yr y:=⟨_,List.getElem?_eq_getElem hlt⟩;have hk:=PO.out j x y hx hy;have ex:ps'[j]=x:=by rw[List.getElem?_eq_getElem aI]at hx;exact Option.some.inj hx
    have ey:ps[j]=y:=by rw[List.getElem?_eq_getElem hlt]at hy;exact Option.some.inj hy
    obtain⟨bx,ox,rfl,cZ,Ak⟩:=(Tr.out.ai HU.out) (by omega);obtain⟨by',oy,rfl,hby,hcy⟩:=(VN.out.ai HU.out) (by omega);obtain⟨x0,x1,x2⟩:=Ak j aI;obtain⟨y0,y1',y2⟩:=hcy j hlt;rw[ex]at x0 x1 x2;rw[ey]at y0 y1' y2;haveI:af bx wr:=af.of cZ;haveI:af by' wr:=af.of hby
    obtain⟨xu,xk,xr⟩:=x;obtain⟨yu,yk,yr⟩:=y;simp only at hk x0 x1 x2 y0 y1' y2;obtain⟨rfl,rfl,hk3⟩:=hk;clear Ak hcy hx hy ex ey
    by_cases hjk:j=uk
    ·have z6:((j:Int)==(uk:Int))=true:=by simp[hjk]
     have z7:((j:Int) != (uk:Int))=false:=by simp[hjk]
     clear hk3 hjk;go_wp2_with fail;go_quiet (fail);go_wp2;exact⟨⟨j+1,by omega,congrArg (Yh Yn) (by omega),HU.out.trans (uZ)⟩,by simp[intOf];omega⟩
    have z6:((j:Int)==(uk:Int))=false:=by simp;omega
    have hk4:=hk3 (by omega);simp only[Prod.mk.injEq,true_and]at hk4;subst hk4;have hq:NO (xu,xk,xr) (xu,xk,xr)=true:=decide_eq_true rfl;clear hk3;go_wp2_with fail;have z8:¬(j:Int)=(uk:Int):=by omega
    go_quiet (fail);go_wp2;exact⟨⟨j+1,by omega,congrArg (Yh Yn) (by omega),HU.out.trans (uZ)⟩,by simp[intOf];omega⟩
   have hjn:j=ps.length:=by omega
   subst hjn;have hct:=Ct fm B1 ps.length e1 ps' uk wr Lf.out (Tr.out.ai HU.out) (by omega) T5;rw[Uu.out]at hct;have pF:=aa hct;have hb3:∀t∈ts,t.length<=1100/\aV t<=100000000:=λt ht=>by have:=QW t ht;exact⟨by omega,by omega⟩
   have hlr:=aa (λW (hW:ac wr W)=>Kf A5 Ar Ag f.length c5 ts.length ca cg f rs ts W rfl hll rfl (Nq.out.ai (HU.out.trans hW)) (UM.out.ai (HU.out.trans hW)) (UP.out.ai (HU.out.trans hW)) (by omega) (by omega) (by omega) hb3 HAS.out);clear hct hb3;go_wp2_with fail;refine pF.out.mono ?_;rintro e w6 ⟨B3,e3,rfl,hI3,ha3,hc3,dD⟩;simp only at hI3 ha3 |-;have VD:=aa hI3;have Qf:=aa dD;clear hI3 dD pF a1 b1 l1 d0 d1 l2;go_wp2_with fail;refine(hlr.out _ Qf.out).mono ?_;rintro e w7 ⟨v7,rfl,cW,hl7,ht7,bM⟩;obtain⟨A7,c7,rfl,h71,h72,_⟩:=aR cW;have mM:=Bu A7 (St.cd f rs ts).length c7 (St.cd f rs ts) w7 rfl (aW cW rfl) (by omega) (by omega);rw[VS.out]at mM;have E0:=aa mM;have lE:=aa (Qf.out.trans bM);have Ry:=bM;clear mM cW hlr bM;go_wp2_with fail;refine E0.out.mono ?_;rintro e w8 ⟨v8,rfl,uU,mr⟩;obtain⟨A8,c8,rfl,h81,h82,_⟩:=aR uU;have Rt:=Ky B3 A8 (St.cd f rs ts).length (St.cd f rs ts).length e3 c8 (St.cd f rs ts) (St.cd f rs ts) w8 rfl rfl ha3 h81 hc3 (by unfold maxLen at h82;omega) (VD.out.ai (Ry.trans mr)) (aW uU rfl);rw[decide_eq_true (p:=St.cd f rs ts=St.cd f rs ts) rfl]at Rt;have mI:=aa (eu.out.trans (HU.out.trans (lE.out.trans mr)));have Tw:=aa Rt;clear Rt uU mr Ry E0;go_wp2_with fail;refine Tw.out.mono ?_;rintro e w9 ⟨rfl,pk⟩;have gm:=aa (mI.out.trans pk);clear pk Tw;go_wp2_with fail;refine(PQ.out _ gm.out).mono ?_;rintro e mD ⟨rfl,hu10⟩;have HE:=aa ((aX.out.trans fj.out).trans (gm.out.trans hu10));clear hu10;go_wp2;go_ret;exact⟨rfl,HE.out⟩
 have z3:(er==0)=false:=by simpa using he
 have z4:(er != 0)=true:=by simpa using he
 go_wp2_with fail;refine(PQ.out _ (ac.refl _)).mono ?_;rintro e w5 ⟨rfl,hu⟩;have HU:=aa ((aX.out.trans fj.out).trans hu);clear hu;go_wp2;go_ret;exact⟨rfl,HU.out⟩
