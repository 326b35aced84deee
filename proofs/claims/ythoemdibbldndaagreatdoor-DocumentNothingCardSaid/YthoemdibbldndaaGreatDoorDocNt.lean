/- The law DocumentNothing: walk. Conditions: the library's tables lie at their. -/
import Derived.Test.YthoemdibbldndaaGreatDoorHvDoc
import Derived.Test.YthoemdibbldndaaGreatDoorDocCt
import Derived.Test.YthoemdibbldndaaGreatDoorNpl
set_option linter.all false
set_option maxHeartbeats 0
set_option maxRecDepth 20000
open Go.Value renaming int->Yp,slice->Yr
open Go.IntKind renaming i64->Yv
open Go.Obj renaming cells->Yw
open Option renaming none->Yy,some->Yz
namespace Go.Proofs.YthoemdibbldndaaGreatDoor
open Go.RowKit
theorem FX{n:Nat}:∀ {rs:List (Int × Int)} {a:Int},St.bV n a rs=true->∀r∈rs,a<=r.1/\r.1<=r.2/\r.2<=n
 | [],_,_,r,hr=>by cases hr
 | x :: rs,a,h,r,hr=>by
  rw[St.bV]at h
  split at h
  ·cases h
  rename_i hn
  rcases List.mem_cons.1 hr with rfl|hr
  ·omega
  have:=FX h r hr;omega
def Oh(w0:World)(f:List St.It)(rs:List (Int × Int))(nU EK:Value)(wr:World):Prop:=∃(k:Nat) (vs:List Value),k<=rs.length/\EK=Yp Yv k/\vs.length=k/\wr.ownsRow w0.1.size 37 1 nU k vs/\nH w0.1.size wr vs (St.iN f (rs.take k))/\ac w0 wr
theorem Fm(A B:Option Addr)(n c m d:Nat)(zs ys:List Int)(part:Int)(w:World)(hL:Mk.jU w)(hz:zs.length=n)(hn:n<=9223372036854775807)(hI:fu w A zs)(hy:ys.length=m)(hm:m<=9223372036854775807)(hJ:fu w B ys) :
  Calls Tryz.prog 9 #[Yr A n c,Yr B m d,Yp Yv part] w λe w'=>e=.returned (.bool true)/\ac w w':=by
 have tC:=aa hL;have Jy:=aa (λW (hW:ac w W)=>vy W (tC.out.ai hW));have JA:=aa (λW (hW:ac w W)=>vw A n c zs W hz hn (hI.ai hW));have HJ:=aa hJ;have HY:=aa hy;clear hL hI hz hJ hy
 by_cases bad:200<n\/100<m
 ·have Md:(200:Int)<(n:Int)\/(¬(200:Int)<(n:Int)/\(100:Int)<(m:Int)):=by omega
  clear bad;rcases Md with z1|⟨z1,z2⟩
  all_goals
   go_enter Tryz.func9,Tryz.ntmps9;go_wp2_with fail;refine(Jy.out _ (ac.refl _)).mono ?_;rintro e w2 ⟨rfl,hu⟩;have HU:=aa hu;clear hu;go_wp2;go_ret;exact⟨rfl,HU.out⟩
 have z1:¬(200:Int)<(n:Int):=by omega
 have z2:¬(100:Int)<(m:Int):=by omega
 obtain⟨i9,h9a,h9b,h9c,h9d⟩:=info_parts sc;go_enter Tryz.func9,Tryz.ntmps9;go_wp2_with fail;refine(JA.out _ (ac.refl _)).mono ?_;rintro e w2 ⟨fm,A2,c2,ps,rfl,hM,hP2,k1,k2,hu2⟩;have hrl:=hM.from.raw
 have hpl:=hM.from.len
 have hkn:=hM.kn;have HM:=aa hM;have fS:=aa hP2;have aX:=aa hu2;have hs2:=hu2.size;have hun:=aa (λW (hW:ac w2 W)=>yM fm A2 ps.length c2 ps part W rfl (fS.out.ai hW) (by omega));clear hM hP2 hu2 JA;go_wp2_with fail;have vx:=heap_alloc_new w2 (Yw #[Yp Yv fm,Yr A2 ps.length c2] 25);have jl:ac w2 (w2.alloc (Yw #[Yp Yv fm,Yr A2 ps.length c2] 25)):=(ac.refl _).alloc _;generalize w2.alloc (Yw #[Yp Yv fm,Yr A2 ps.length c2] 25)=ws at *;obtain⟨xd,hxd⟩:∃xd,xd=w2.1.size:=⟨_,rfl⟩;rw[<-hxd]at vx |-;have HX:=aa vx;have xn:=aa jl;clear jl vx hxd;refine(hun.out _ xn.out).mono ?_;rintro e w3 ⟨rfl,hu3⟩;have bm:=aa hu3;generalize Cr ps part=uk;have hb3:=(hu3.below.block xd (ae HX.out)).trans HX.out;have d0:w3.cell? ⟨xd,0,Yy⟩=Yz (Yp Yv fm):=by rw[aj hb3];rfl
 have d1:w3.cell? ⟨xd,1,Yy⟩=Yz (Yr A2 ps.length c2):=by rw[aj hb3];rfl
 haveI:af xd w3:=af.of (ae hb3);have hrc:=uC fm A2 ps.length c2 ps uk w3 rfl (fS.out.ai (xn.out.trans hu3)) (by omega) (by omega);have DO:=λh0=>HM.out.unit (k:=(uk:Int)) h0
 have gY:=aa DO;obtain⟨pe,wi⟩:=C1 hkn ps uk;generalize Kj:CD fm ps uk=RC at hrc pe wi;obtain⟨f,cu,pl,er⟩:=RC;simp only at pe wi;have JE:=aa hrc;have qS:=aa Kj;clear hrc hu3 hb3 hun DO Kj;go_wp2_with fail;refine JE.out.mono ?_;rintro e w4 ⟨A5,c5,rfl,lg,h51,h52,bj⟩;simp only at lg h51 |-;have ea:=aa (xn.out.trans (bm.out.trans bj));have CS:=aa (((bm.out.trans bj).below.block xd (ae HX.out)).trans HX.out);have vo:=aa lg;have CG:=aa (λW (hW:ac w4 W)=>Jy.out W ((aX.out.trans ea.out).trans hW));clear bj lg d0 d1 HX xn bm JE
 by_cases he:er=0
 ·subst he;obtain⟨p,us,i,f',qs,q,hps,hki,hD,h10,o0,hzz,hU⟩:=gY.out (by rw[qS.out]);have DA:f=f':=by rw[qS.out]at hU;exact(Prod.mk.inj hU).1
  subst DA;have vn:=aa hD;have vq:=aa hps;have FI:=aa hki;have yb:=CS.out;have d0:w4.cell? ⟨xd,0,Yy⟩=Yz (Yp Yv fm):=by rw[aj yb];rfl
  have d1:w4.cell? ⟨xd,1,Yy⟩=Yz (Yr A2 ps.length c2):=by rw[aj yb];rfl
  haveI:af xd w4:=af.of (ae yb);clear hD hU hps hki gY qS;have hpc:=yv (w4.1.size+1) w4.1.size 0 f.length c5 false A5 f (w4.alloc (Yw #[Yr B m d,Yp Yv 0] 61)) (bp.fresh hm HY.out (HJ.out.ai (aX.out.trans ea.out))) (by omega) rfl (vo.out.ai ((ac.refl _).alloc _)) (λh0 b off e=>by obtain⟨b',off',e',hb,_⟩:=vo.out h0;rw[e]at e';cases e';omega) (by omega) (by omega) (λhh=>by cases hh);have JD:=aa hpc;clear hpc yb;go_wp2_with fail;refine JD.out.mono ?_;rintro e w5 ⟨Ar,Ag,ca,cg,rs,ts,rfl,hRs,hTs,hll,h3,Ku,hcg,hca2,hcg2,has,hft,uc,hgb⟩;have bt:ac w4 w5:=((ac.refl w4).alloc _).sr hgb (λg e=>by cases e;omega);have kV:=aa hRs;have HAS:=aa has;have de:=aa bt;have Ay:=aa ((bt.below.block xd (ae CS.out)).trans CS.out);have CF:=aa (vo.out.ai bt);clear hRs hTs hft uc hgb bt JD d0 d1 has;go_wp2_with fail;go_loopw [13,57] (λnU EK wr=>Oh w5 f rs nU EK wr) (λ_ EK _=>rs.length+1-(intOf EK).toNat)
  case atStart=>exact⟨0,[],by omega,rfl,rfl,World.ownsRow_nil _ _ _ _,GW _ _,ac.refl _⟩
  case round=>
   obtain⟨k,vs,hkr,rfl,hvl,hown,cW,hu⟩:=hrel;have HO:=aa hown;have HT:=aa cW;have HU:=aa hu;have DK:=hu.size;clear hown cW hu
   by_cases hlt:k<rs.length
   ·have y1:(k:Int)<(ts.length:Int):=by omega
    obtain⟨b,off,rfl,hb,hc⟩:=(kV.out.ai HU.out) (by omega);obtain⟨c0,c1⟩:=hc k hlt;have OC:=FX HAS.out rs[k] (List.getElem_mem hlt)
    have htk:St.iN f (rs.take (k+1))=St.iN f (rs.take k)++[St.aR rs[k].1.toNat rs[k].2.toNat 0 f]:=by
     unfold St.iN;rw[List.take_add_one,List.getElem?_eq_getElem hlt,List.map_append];rfl
    generalize rs[k]=r at c0 c1 OC htk;obtain⟨p',q'⟩:=r;simp only at c0 c1 OC htk;obtain⟨p',rfl⟩:∃z:Nat,p'=z:=⟨p'.toNat,by omega⟩;obtain⟨q',rfl⟩:∃z:Nat,q'=z:=⟨q'.toNat,by omega⟩;simp only[Int.toNat_natCast]at htk;have hsl:=aa (λW (hW:ac wr W)=>sK A5 f.length c5 f p' q' W rfl (CF.out.ai (HU.out.trans hW)) (by omega) (by omega) (by omega) (by omega));haveI:af b wr:=af.of hb;clear hc OC;generalize St.aR p' q' 0 f=x at htk hsl;have n4:=aa htk;clear htk;go_wp2_with fail;refine(hsl.out _ (uZ)).mono ?_;rintro e w6 ⟨v6,rfl,qd,dQ⟩;obtain⟨A6,c6,rfl,_,_,_⟩:=aW qd;have pt:ac wr w6:=ac.trans (uZ) dQ;have dS:=aa pt;have zF:=pt.size;have tE:=aa (dN HO.out pt);have FT:=aa (cT (base':=w5.1.size) qd (by simp;omega));have V4:=aa (pH HT.out (λv n xs h=>dN h pt));clear qd dQ pt hsl c0 c1;go_wp2_with (at_builtin;refine wpList_append_own _ rfl _ _ 38 rfl w5.1.size 37 i9 (.slice none 0 0) 1 24 Tryz.underlying38 h9a h9b h9c h9d rfl (by decide) _ k _ rfl (tE.out.alloc _) _ 1 1 [.slice A6 x.length c6] rfl rfl ?qa1 ?qa2 (by unfold maxLen;omega) (by omega) ?qa3 ?_)
    case qa1=>exact gS _ _ _
    case qa2=>intro u hu;simp only[List.mem_cons,List.not_mem_nil,or_false]at hu;rcases hu with rfl;rfl
    case qa3=>simp;omega
    intro v7 w7 hown7 hgrow7 _
    have hrel:Oh w5 f rs v7 (Yp Yv ((k:Int)+1)) w7:=⟨k+1,vs++[Yr A6 x.length c6],by omega,congrArg (Yp Yv) (by omega),by simp[hvl],hown7,by
     rw[n4.out]
     exact E3 (pH V4.out (λv n xs h=>jm (h.alloc _) (tE.out.alloc _) (by decide) hgrow7)) (jm (FT.out.alloc _) (tE.out.alloc _) (by decide) hgrow7),((HU.out.trans dS.out).alloc _).grown hgrow7 (aD tE.out)⟩
    have bw:=aa hrel;clear hrel hown7 hgrow7;go_wp2
    first|exact⟨bw.out,by simp[intOf];omega⟩|(refine⟨?_,by simp[intOf];omega⟩;(repeat apply Exists.intro);exact⟨bw.out,rfl⟩)
   have vu:k=rs.length:=by omega
   subst vu;rw[List.take_length]at HT;obtain⟨As,cs,rfl,hcs3,hcs4⟩:=aI HO.out;have y1:¬(rs.length:Int)<(ts.length:Int):=by omega
   have TP:=aa (LP HO.out hvl HT.out)
   have uc:∀t∈St.iN f rs,t.length<=1100/\aY t<=20000000:=λt ht=>by
    obtain⟨r,_,rfl⟩:=List.mem_map.1 ht;have h1:=(St.sP r.1.toNat r.2.toNat f).1;have h2:=uR r.1.toNat r.2.toNat f 0;exact⟨by omega,by omega⟩
   obtain⟨GY,OS,jE,hd'⟩:=St.NA vn.out h10 o0 hzz HAS.out;have hn0:=St.Em vn.out h10;rw[<-vq.out,<-FI.out]at hn0 jE;have mK:=aa (ea.out.trans (de.out.trans HU.out));have g1:=λW (hW:ac wr W)=>l8 fm hkn A2 Yy Yy ps.length c2 0 0 0 0 ps uk [] [] W (tC.out.ai (aX.out.trans (mK.out.trans hW))) rfl k1 k2 rfl rfl (fS.out.ai (mK.out.trans hW)) (λh=>absurd h (by simp)) (λh=>absurd h (by simp)) hpl hrl (by omega) (λt h=>by cases h)
   have g2:=λW (hW:ac wr W)=>l8 fm hkn A2 Ar As ps.length c2 ts.length ca ts.length cs ps uk rs (St.iN f rs) W (tC.out.ai (aX.out.trans (mK.out.trans hW))) rfl k1 k2 hll (by simp[St.iN,hll]) (fS.out.ai (mK.out.trans hW)) (kV.out.ai (HU.out.trans hW)) (TP.out.ai hW) hpl hrl (by omega) uc
   simp only[hn0]at g1;simp only[jE]at g2
   have hU:CD fm (St.bc p GY) (uk:Int)=(f,(List.range (OS.length+1)).map (St.cz OS),0,0):=by
    unfold CD;rw[if_pos hkn,FI.out];exact hd'.cont
   have KJ:(St.b8 (St.bc p GY)).length<=1000000000:=by
    rw[St.jn];have:=hd'.size
    omega
   generalize St.bc p GY=ps' at *;unfold fV at g1 g2;simp only at g1 g2;have G1:=aa g1;have G2:=aa g2;have UE:=aa hU;have KO:=(HU.out.below.block xd (ae Ay.out)).trans Ay.out;have d0:wr.cell? ⟨xd,0,Yy⟩=Yz (Yp Yv fm):=by rw[aj KO];rfl
   have d1:wr.cell? ⟨xd,1,Yy⟩=Yz (Yr A2 ps.length c2):=by rw[aj KO];rfl
   haveI:af xd wr:=af.of (ae KO);have FT:=aa KO;clear g1 g2 hU KO uc jE hn0 hd' TP HO HT kV vn vq FI HAS;go_wp2_with fail;refine(G1.out _ (ac.refl _)).mono ?_;rintro e v1 ⟨B1,e1,rfl,Dr,ha1,hc1,hu1⟩;have Dv:=heap_alloc_new v1 (Yw #[Yp Yv fm,Yr B1 ps.length e1] 25);have DP:ac wr (v1.alloc (Yw #[Yp Yv fm,Yr B1 ps.length e1] 25)):=hu1.alloc _;have Hb:=aa (Dr.ai ((ac.refl v1).alloc (Yw #[Yp Yv fm,Yr B1 ps.length e1] 25)));have qX:=aa DP;have Ir:v1.1.size<(v1.alloc (Yw #[Yp Yv fm,Yr B1 ps.length e1] 25)).1.size:=by simp
   have G6:=aa Dv;clear d0 d1 Dr hu1 Dv DP G1;have hx2:=(qX.out.below.block xd (ae FT.out)).trans FT.out;have d0:(v1.alloc (Yw #[Yp Yv fm,Yr B1 ps.length e1] 25)).cell? ⟨xd,0,Yy⟩=Yz (Yp Yv fm):=by rw[aj hx2];rfl
   have d1:(v1.alloc (Yw #[Yp Yv fm,Yr B1 ps.length e1] 25)).cell? ⟨xd,1,Yy⟩=Yz (Yr A2 ps.length c2):=by rw[aj hx2];rfl
   haveI:af xd (v1.alloc (Yw #[Yp Yv fm,Yr B1 ps.length e1] 25)):=af.of (ae hx2);clear hx2;go_wp2_with fail;refine(G2.out _ qX.out).mono ?_;rintro e v2 ⟨B2,e2,rfl,hP2,ha2,hc2,hu2⟩;have Rp:=heap_alloc_new v2 (Yw #[Yp Yv fm,Yr B2 ps'.length e2] 25);have DQ:ac (v1.alloc (Yw #[Yp Yv fm,Yr B1 ps.length e1] 25)) (v2.alloc (Yw #[Yp Yv fm,Yr B2 ps'.length e2] 25)):=hu2.alloc _;have UU:=aa (hP2.ai ((ac.refl v2).alloc (Yw #[Yp Yv fm,Yr B2 ps'.length e2] 25)));have XC:=aa DQ;have xo:=aa (qX.out.trans DQ);have UD:=aa Rp;have L3:=aa ((DQ.below.block v1.1.size Ir).trans G6.out);have UW:=aa (Hb.out.ai DQ);have aO:v2.1.size<(v2.alloc (Yw #[Yp Yv fm,Yr B2 ps'.length e2] 25)).1.size:=by simp
   clear d0 d1 hP2 hu2 Rp DQ G2;have a1:(v2.alloc (Yw #[Yp Yv fm,Yr B2 ps'.length e2] 25)).cell? ⟨v1.1.size,0,Yy⟩=Yz (Yp Yv fm):=by rw[aj L3.out];rfl
   have b1:(v2.alloc (Yw #[Yp Yv fm,Yr B2 ps'.length e2] 25)).cell? ⟨v1.1.size,1,Yy⟩=Yz (Yr B1 ps.length e1):=by rw[aj L3.out];rfl
   haveI l1:af v1.1.size (v2.alloc (Yw #[Yp Yv fm,Yr B2 ps'.length e2] 25)):=af.of (ae L3.out);have hx3:=(xo.out.below.block xd (ae FT.out)).trans FT.out;have d0:(v2.alloc (Yw #[Yp Yv fm,Yr B2 ps'.length e2] 25)).cell? ⟨xd,0,Yy⟩=Yz (Yp Yv fm):=by rw[aj hx3];rfl
   have d1:(v2.alloc (Yw #[Yp Yv fm,Yr B2 ps'.length e2] 25)).cell? ⟨xd,1,Yy⟩=Yz (Yr A2 ps.length c2):=by rw[aj hx3];rfl
   haveI:af xd (v2.alloc (Yw #[Yp Yv fm,Yr B2 ps'.length e2] 25)):=af.of (ae hx3);clear hx3;go_wp2_with fail;have hsm:=yy fm fm B1 A2 ps.length ps.length e1 c2 ps ps _ rfl rfl ha1 k1 hc1 k2 UW.out (fS.out.ai (mK.out.trans xo.out));rw[decide_eq_true (p:=fm=fm/\ps=ps) ⟨rfl,rfl⟩]at hsm;refine hsm.mono ?_;rintro e z1 ⟨rfl,hz1⟩;have We:=aa hz1;have Ij:=(hz1.below.block v2.1.size aO).trans UD.out;have a2:z1.cell? ⟨v2.1.size,0,Yy⟩=Yz (Yp Yv fm):=by rw[aj Ij];rfl
   have b2:z1.cell? ⟨v2.1.size,1,Yy⟩=Yz (Yr B2 ps'.length e2):=by rw[aj Ij];rfl
   haveI l2:af v2.1.size z1:=af.of (ae Ij);have hct:=C8 fm B2 ps'.length e2 ps' uk z1 rfl (UU.out.ai hz1) (by omega) KJ;rw[UE.out]at hct;have pO:=aa hct;clear hz1 hsm Ij hct a1 b1 l1 d0 d1;go_wp2_with fail;refine pO.out.mono ?_;rintro e z2 ⟨B3,e3,rfl,hI3,ha3,hc3,hz2⟩;simp only at hI3 ha3 |-;have VM:=aa hI3;have TU:=aa (We.out.trans hz2);clear hI3 hz2 pO a2 b2 l2;go_wp2_with fail;have RS:=Lk A5 B3 f.length f.length c5 e3 f f z2 rfl rfl h51 ha3 h52 hc3 (CF.out.ai (HU.out.trans (xo.out.trans TU.out))) VM.out;rw[decide_eq_true (p:=f=f) rfl]at RS;refine RS.mono ?_;rintro e z3 ⟨rfl,hz3⟩;have TW:=aa (de.out.trans (HU.out.trans (xo.out.trans (TU.out.trans hz3))));clear hz3 RS;go_wp2_with fail;refine(CG.out _ TW.out).mono ?_;rintro e z4 ⟨rfl,hz4⟩;have HE:=aa ((aX.out.trans ea.out).trans (TW.out.trans hz4));clear hz4;go_wp2;go_ret;exact⟨rfl,HE.out⟩
 have z3:(er==0)=false:=by simpa using he
 have z4:(er != 0)=true:=by simpa using he
 go_wp2_with fail;refine(CG.out _ (ac.refl _)).mono ?_;rintro e w5 ⟨rfl,hu⟩;have HU:=aa ((aX.out.trans ea.out).trans hu);clear hu;go_wp2;go_ret;exact⟨rfl,HU.out⟩
