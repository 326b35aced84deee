/- The contract of the maker Fragment without tags: joined items of texts and placeholders. -/
import Derived.Test.YthoemdibbldndaaGreatDoorGF
import Derived.LoopN
import Derived.Test.YthoemdibbldndaaGreatDoorRdsA
import Derived.Test.YthoemdibbldndaaGreatDoorGH
import Derived.BigQuiet
import Derived.IntWalk
import Derived.Deep.RegionHeld3
import Derived.OrdersHeld
set_option linter.all false
set_option maxHeartbeats 0
set_option maxRecDepth 20000
open Go.Value renaming int->VD,string->VE,slice->VF,bool->VG,pointer->VH
open Go.IntKind renaming i64->VJ
open Go.Obj renaming cells->VK
open Go.Ending renaming returned->VL
open Go renaming World->VO
namespace Go.Proofs.YthoemdibbldndaaGreatDoor
open Go.RowKit
section
def DJ(x:St.It):Prop:=x.2.2=0/\(x.1=1\/(x.1=5/\St.aS x.2.1=true))
def uY(f:List St.It):Prop:=St.Nm f/\∀x∈f,DJ x
theorem I2:uY []:=⟨St.sy,λ_ h=>by cases h⟩
theorem I1{f:List St.It}{x:St.It}(h:uY f)(hx:DJ x):uY (St.aV f x):=by
 refine⟨St.gC h.1 x,λy hy=>?_⟩;rcases St.dD f with rfl|⟨a,b,rfl⟩
 ·rw[St.gv]at hy
  split at hy
  ·split at hy
   ·cases hy
   simp at hy;subst hy;exact⟨rfl,.inl rfl⟩
  simp at hy;subst hy;exact hx
 rw[St.dJ]at hy
 split at hy
 ·split at hy
  ·exact h.2 y hy
  split at hy
  ·rcases List.mem_append.1 hy with hy|hy
   ·exact h.2 y (by simp[hy])
   simp at hy;subst hy;exact⟨rfl,.inl rfl⟩
  rcases List.mem_append.1 hy with hy|hy
  ·exact h.2 y hy
  simp at hy;subst hy;exact⟨rfl,.inl rfl⟩
 rcases List.mem_append.1 hy with hy|hy
 ·exact h.2 y hy
 simp at hy;subst hy;exact hx
def Ko(w:VO)(B g P n:Nat)(s9 cW s12:Value)(wr:VO):Prop:=∃(i k:Nat) (f:List St.It),cW=VF none 0 0/\s12=VD VJ i/\k+i<=n/\wr.ownsRow w.1.size 36 3 s9 f.length (av f)/\uY f/\f.length<=k/\aP f<=18*k/\bm wr B g (P+1+9*k)/\w.grownBy wr (some g)
def Lj(w:VO)(B g P n:Nat)(e:Ending)(w':VO):Prop:=∃(v:Value) (f:List St.It),e=VL v/\w'.ownsRow w.1.size 36 3 v f.length (av f)/\uY f/\f.length<=n/\aP f<=18*n/\bm w' B g (P+1+9*n)/\w.grownBy w' (some g)
theorem Aw(B g P n:Nat)(w:VO)(hG:bm w B g P)(hP:P<=100000)(hn:n<=100) :
  Calls Tryz.prog 66 #[VH (some ⟨g,0,none⟩),VD VJ n,VG false,VG true] w (Lj w B g P n):=by
 have HG:=aa hG;obtain⟨jD,hB⟩:=hG.lt;clear hG;go_enter Tryz.func66,Tryz.ntmps66;go_wp2_with fail;refine(bN B g P ((n:Int)+1) _ HG.out (by omega) (by omega) (by omega)).mono ?_;rintro e w2 ⟨r,rfl,hr,hG2,hk⟩;have HG2:=aa hG2;have fQ:=aa hk;clear hG2 hk HG;go_wp2_with fail;go_loopw [9,10,12] (λs9 cW s12 wr=>Ko w B g P n s9 cW s12 wr) (λ_ _ s12 _=>(intOf s12).toNat)
 case atStart=>exact⟨r,0,[],rfl,rfl,by omega,World.ownsRow_nil _ _ _ _,I2,by simp,by simp[aP],HG2.out,fQ.out⟩
 case round=>
  clear HG2 fQ hr;obtain⟨i,k,f,rfl,rfl,ye,hown,fT,hfl,hft,hG,hk⟩:=hrel;have HG:=aa hG;have HK:=aa hk;have HO:=aa hown;have MF:=aa fT;clear hG hk hown fT
  by_cases hi:0<i
  ·have z:(0:Int)<(i:Int):=by omega
   obtain⟨wo,rfl⟩:∃wo:VO,wo=wr:=⟨_,rfl⟩;go_wp2_with fail;refine(uF B g _ 3 _ HG.out (by omega) (by omega)).mono ?_;rintro e w3 ⟨t,rfl,hts,hG3,hk3⟩;have gJ:=aa hG3;have ff:=aa (aK HK.out hk3 (λ_ e=>.inl e));have eS:=aa (eC HO.out hk3 (by omega));clear hG3 hk3 HG HK HO;have Ou:=ff.out.size;obtain⟨A9,c9,rfl,_,_,hA9⟩:=aJ eS.out;have dW:∀x,(VF A9 f.length c9).ownBlock=some x->x<w3.1.size:=λx hx=>(eS.out.lt x hx).2
   have iC:∀(W:VO) (b:Nat) (x:St.It),x.2.2=0->aE W A9 f->aE W (some ⟨b,0,none⟩) [x]->aP (f++[x])<=4611686018427387904->Calls Tryz.prog 44 #[VF A9 f.length c9,VF (some ⟨b,0,none⟩) 1 1] W λe w'=>∃v,e=VL v/\w'.ownsRow W.1.size 36 3 v (St.aV f x).length (av (St.aV f x))/\ac W w':=by
    intro W b x hx h h' ht;have:=gU A9 f.length c9 f (some ⟨b,0,none⟩) 1 1 [x] W rfl rfl (λe=>by have:=hA9 e;omega) (λe=>by cases e) h h' (by omega) ht
    rw[St.ew,MF.out.1]at this;exact this
   have cJ:=aa iC;clear iC
   have fin:∀(x:St.It) (v7:Value) (w7:VO),DJ x->x.2.1.length<=18->(x.1=1\/x.1=5)->w7.ownsRow w.1.size 36 3 v7 (St.aV f x).length (av (St.aV f x))->bm w7 B g (P+1+9*(k+1))->w.grownBy w7 (some g)->Ko w B g P n v7 (VF none 0 0) (VD VJ ((i:Int)-1)) w7:=by
    intro x v7 w7 hg hx _ ho hG hk;have h1:=(St.ic f x).1;have h2:=gQ f x;exact⟨i-1,k+1,St.aV f x,rfl,congrArg (VD VJ) (by omega),by omega,ho,I1 MF.out hg,by omega,by omega,hG,hk⟩
   have gk:=aa fin;clear fin;have tM:g<w3.1.size:=by omega
   go_wp2_with fail;refine(bN B g _ 8 _ (gJ.out.ah ((ac.refl _).alloc _)) (by omega) (by omega) (by omega)).mono ?_;rintro e w4 ⟨r,rfl,hr,hG4,hk4⟩;have eM:=aa hG4;have de:=aa (aK (bE ff.out ((ac.refl _).alloc (VK #[VD VJ 1,VE t,VD VJ 0] 36))) hk4 (λ_ e=>.inl e));have iv:=aa (eC (eS.out.alloc (VK #[VD VJ 1,VE t,VD VJ 0] 36)) hk4 (by omega));have hb4:w4.1[w3.1.size]?=some (VK #[VD VJ 1,VE t,VD VJ 0] 36 (0,0)):=(hk4.block w3.1.size (by simp) (by simp;omega)).trans (heap_alloc_new w3 _);have mN:w3.1.size<w4.1.size:=ae hb4;have d0:w4.cell? ⟨w3.1.size,0,none⟩=some (VD VJ 1):=ai hb4 0;have d1:w4.cell? ⟨w3.1.size,1,none⟩=some (VE t):=ai hb4 1;have d2:w4.cell? ⟨w3.1.size,2,none⟩=some (VD VJ 0):=ai hb4 2;haveI:af w3.1.size w4:=af.of mN;have oe:r<8:=by omega
   clear hG4 hk4 gJ ff eS hr;rcases(show r=0\/r=1\/r=2\/r=3\/r=4\/r=5\/r=6\/r=7 by omega)with h|h|h|h|h|h|h|h
   ·subst h;clear oe d0 d1 d2;go_wp2_with fail;refine(bN B g _ 3 _ (eM.out.ah ((ac.refl _).alloc (VK #[VE ⟨#[110]⟩,VE ⟨#[110,97,109,101]⟩,VE ⟨#[120,49]⟩] 9))) (by omega) (by omega) (by omega)).mono ?_;rintro e w5 ⟨q,rfl,hq,hG5,hk5⟩
    obtain⟨u,hu,j7,hun⟩:∃u:ByteArray,(#[VE ⟨#[110]⟩,VE ⟨#[110,97,109,101]⟩,VE ⟨#[120,49]⟩]:Array Value)[q]?=some (VE u)/\u.size<=4/\St.aS u.1.1=true:=by
     rcases(show q=0\/q=1\/q=2 by omega)with h|h|h<;>subst h<;>exact⟨_,rfl,by decide,by decide⟩
    have hcell:=gB w4 w5 _ _ B g hk5 jD (by omega) q _ hu;have jl:=aa hG5;have nG:=aa (aK (bE de.out ((ac.refl _).alloc (VK #[VE ⟨#[110]⟩,VE ⟨#[110,97,109,101]⟩,VE ⟨#[120,49]⟩] 9))) hk5 (λ_ e=>.inl e));have eI:=aa (eC (iv.out.alloc (VK #[VE ⟨#[110]⟩,VE ⟨#[110,97,109,101]⟩,VE ⟨#[120,49]⟩] 9)) hk5 (by omega));have bR:w5.1[w3.1.size]?=some (VK #[VD VJ 1,VE t,VD VJ 0] 36 (0,0)):=(hk5.block w3.1.size (by simp;omega) (by simp;omega)).trans ((((ac.refl w4).alloc _).below.block w3.1.size mN).trans hb4);have f0:w5.frozen? ⟨w3.1.size,0,none⟩=false:=bg bR 0;have f1:w5.frozen? ⟨w3.1.size,1,none⟩=false:=bg bR 1;have f2:w5.frozen? ⟨w3.1.size,2,none⟩=false:=bg bR 2;have g0:w5.cell? ⟨w3.1.size,0,none⟩=some (VD VJ 1):=ai bR 0;have g1:w5.cell? ⟨w3.1.size,1,none⟩=some (VE t):=ai bR 1;have g2:w5.cell? ⟨w3.1.size,2,none⟩=some (VD VJ 0):=ai bR 2;haveI:af w3.1.size w5:=af.of (ae bR);haveI:af w4.1.size w5:=af.of (cd _ _ hcell);have vJ:q<3:=by omega
    have hob:(VF A9 f.length c9).ownBlock≠some w3.1.size:=λe=>by have:=dW _ e;omega
    have hkey:∀W,W=((w5.setCell ⟨w3.1.size,0,none⟩ (VD VJ 5)).setCell ⟨w3.1.size,1,none⟩ (VE u)).setCell ⟨w3.1.size,2,none⟩ (VD VJ 0)->W.ownsRow w.1.size 36 3 (VF A9 f.length c9) f.length (av f)/\bm W B g (P+1+9*(k+1))/\w.grownBy W (some g):=by
     intro W hW;subst hW;refine⟨aF (aF (aF eI.out hob) hob) hob,?_,bM (bM (bM nG.out _ _ (.inr (by show w.1.size<=w3.1.size;omega))) _ _ (.inr (by show w.1.size<=w3.1.size;omega))) _ _ (.inr (by show w.1.size<=w3.1.size;omega))⟩;have hBb:∀x,some w3.1.size=some x->B<=x:=λx e=>by cases e;omega
     exact(((jl.out.gb (cD w5 ⟨w3.1.size,0,none⟩ _) hBb).gb (cD _ ⟨w3.1.size,1,none⟩ _) hBb).gb (cD _ ⟨w3.1.size,2,none⟩ _) hBb).le (by omega)
    have HKEY:=aa (hkey _ rfl);have wP:=HKEY.out.2.1.lt.2;clear hG5 hk5 eM de iv hkey hu hq;go_wp2_with fail;refine(cJ.out _ _ (5,u.1.1,0) rfl ?_ ?_ ?_).mono ?_
    ·exact(aM HKEY.out.1 rfl).ah ((ac.refl _).alloc _)
    ·rw[<-aX u];exact fs _ _ _ _ (by simp) (by rw[World.cell?_alloc_at _ _ _ _ (by simp)];rfl) (by rw[World.cell?_alloc_at _ _ _ _ (by simp)];rfl) (by rw[World.cell?_alloc_at _ _ _ _ (by simp)];rfl)
    ·rw[ci];simp;omega
    rintro e w7 ⟨v7,rfl,db,bC⟩;have hrel:=gk.out (5,u.1.1,0) v7 w7 ⟨rfl,.inr ⟨rfl,hun⟩⟩ (by simp;omega) (.inr rfl) (cC db (by have:=HKEY.out.2.2.size;simp at this |-;omega)) ((HKEY.out.2.1.ah ((ac.refl _).alloc _)).ah bC) (bE HKEY.out.2.2 (((ac.refl _).alloc _).trans bC));have bn:=aa hrel;clear hrel db bC hcell;go_wp2;exact⟨bn.out,by simp[intOf];omega⟩
   ·subst h;clear oe d0 d1 d2;go_wp2_with fail;refine(bN B g _ 3 _ (eM.out.ah ((ac.refl _).alloc (VK #[VE ⟨#[110]⟩,VE ⟨#[110,97,109,101]⟩,VE ⟨#[120,49]⟩] 9))) (by omega) (by omega) (by omega)).mono ?_;rintro e w5 ⟨q,rfl,hq,hG5,hk5⟩
    obtain⟨u,hu,j7,hun⟩:∃u:ByteArray,(#[VE ⟨#[110]⟩,VE ⟨#[110,97,109,101]⟩,VE ⟨#[120,49]⟩]:Array Value)[q]?=some (VE u)/\u.size<=4/\St.aS u.1.1=true:=by
     rcases(show q=0\/q=1\/q=2 by omega)with h|h|h<;>subst h<;>exact⟨_,rfl,by decide,by decide⟩
    have hcell:=gB w4 w5 _ _ B g hk5 jD (by omega) q _ hu;have jl:=aa hG5;have nG:=aa (aK (bE de.out ((ac.refl _).alloc (VK #[VE ⟨#[110]⟩,VE ⟨#[110,97,109,101]⟩,VE ⟨#[120,49]⟩] 9))) hk5 (λ_ e=>.inl e));have eI:=aa (eC (iv.out.alloc (VK #[VE ⟨#[110]⟩,VE ⟨#[110,97,109,101]⟩,VE ⟨#[120,49]⟩] 9)) hk5 (by omega));have bR:w5.1[w3.1.size]?=some (VK #[VD VJ 1,VE t,VD VJ 0] 36 (0,0)):=(hk5.block w3.1.size (by simp;omega) (by simp;omega)).trans ((((ac.refl w4).alloc _).below.block w3.1.size mN).trans hb4);have f0:w5.frozen? ⟨w3.1.size,0,none⟩=false:=bg bR 0;have f1:w5.frozen? ⟨w3.1.size,1,none⟩=false:=bg bR 1;have f2:w5.frozen? ⟨w3.1.size,2,none⟩=false:=bg bR 2;have g0:w5.cell? ⟨w3.1.size,0,none⟩=some (VD VJ 1):=ai bR 0;have g1:w5.cell? ⟨w3.1.size,1,none⟩=some (VE t):=ai bR 1;have g2:w5.cell? ⟨w3.1.size,2,none⟩=some (VD VJ 0):=ai bR 2;haveI:af w3.1.size w5:=af.of (ae bR);haveI:af w4.1.size w5:=af.of (cd _ _ hcell);have vJ:q<3:=by omega
    have hob:(VF A9 f.length c9).ownBlock≠some w3.1.size:=λe=>by have:=dW _ e;omega
    have hkey:∀W,W=((w5.setCell ⟨w3.1.size,0,none⟩ (VD VJ 5)).setCell ⟨w3.1.size,1,none⟩ (VE u)).setCell ⟨w3.1.size,2,none⟩ (VD VJ 0)->W.ownsRow w.1.size 36 3 (VF A9 f.length c9) f.length (av f)/\bm W B g (P+1+9*(k+1))/\w.grownBy W (some g):=by
     intro W hW;subst hW;refine⟨aF (aF (aF eI.out hob) hob) hob,?_,bM (bM (bM nG.out _ _ (.inr (by show w.1.size<=w3.1.size;omega))) _ _ (.inr (by show w.1.size<=w3.1.size;omega))) _ _ (.inr (by show w.1.size<=w3.1.size;omega))⟩;have hBb:∀x,some w3.1.size=some x->B<=x:=λx e=>by cases e;omega
     exact(((jl.out.gb (cD w5 ⟨w3.1.size,0,none⟩ _) hBb).gb (cD _ ⟨w3.1.size,1,none⟩ _) hBb).gb (cD _ ⟨w3.1.size,2,none⟩ _) hBb).le (by omega)
    have HKEY:=aa (hkey _ rfl);have wP:=HKEY.out.2.1.lt.2;clear hG5 hk5 eM de iv hkey hu hq;go_wp2_with fail;refine(cJ.out _ _ (5,u.1.1,0) rfl ?_ ?_ ?_).mono ?_
    ·exact(aM HKEY.out.1 rfl).ah ((ac.refl _).alloc _)
    ·rw[<-aX u];exact fs _ _ _ _ (by simp) (by rw[World.cell?_alloc_at _ _ _ _ (by simp)];rfl) (by rw[World.cell?_alloc_at _ _ _ _ (by simp)];rfl) (by rw[World.cell?_alloc_at _ _ _ _ (by simp)];rfl)
    ·rw[ci];simp;omega
    rintro e w7 ⟨v7,rfl,db,bC⟩;have hrel:=gk.out (5,u.1.1,0) v7 w7 ⟨rfl,.inr ⟨rfl,hun⟩⟩ (by simp;omega) (.inr rfl) (cC db (by have:=HKEY.out.2.2.size;simp at this |-;omega)) ((HKEY.out.2.1.ah ((ac.refl _).alloc _)).ah bC) (bE HKEY.out.2.2 (((ac.refl _).alloc _).trans bC));have bn:=aa hrel;clear hrel db bC hcell;go_wp2;exact⟨bn.out,by simp[intOf];omega⟩
   ·subst h;clear oe hb4;go_wp2_with fail;refine(cJ.out _ _ (1,t.1.1,0) rfl ?_ ?_ ?_).mono ?_
    ·exact(aM iv.out rfl).ah ((ac.refl _).alloc _)
    ·rw[<-aX t];exact fs _ _ _ _ (by simp) (by simp) (by simp) (by simp)
    ·rw[ci];simp;omega
    rintro e w7 ⟨v7,rfl,db,bC⟩;have hrel:=gk.out (1,t.1.1,0) v7 w7 ⟨rfl,.inl rfl⟩ (by simp;omega) (.inl rfl) (cC db (by have:=de.out.size;simp at this |-;omega)) (((eM.out.ah ((ac.refl _).alloc _)).ah bC).le (by omega)) (bE de.out (((ac.refl _).alloc _).trans bC));have bn:=aa hrel;clear hrel db bC d0 d1 d2;go_wp2;exact⟨bn.out,by simp[intOf];omega⟩
   ·subst h;clear oe hb4;go_wp2_with fail;refine(cJ.out _ _ (1,t.1.1,0) rfl ?_ ?_ ?_).mono ?_
    ·exact(aM iv.out rfl).ah ((ac.refl _).alloc _)
    ·rw[<-aX t];exact fs _ _ _ _ (by simp) (by simp) (by simp) (by simp)
    ·rw[ci];simp;omega
    rintro e w7 ⟨v7,rfl,db,bC⟩;have hrel:=gk.out (1,t.1.1,0) v7 w7 ⟨rfl,.inl rfl⟩ (by simp;omega) (.inl rfl) (cC db (by have:=de.out.size;simp at this |-;omega)) (((eM.out.ah ((ac.refl _).alloc _)).ah bC).le (by omega)) (bE de.out (((ac.refl _).alloc _).trans bC));have bn:=aa hrel;clear hrel db bC d0 d1 d2;go_wp2;exact⟨bn.out,by simp[intOf];omega⟩
   ·subst h;clear oe hb4;go_wp2_with fail;refine(cJ.out _ _ (1,t.1.1,0) rfl ?_ ?_ ?_).mono ?_
    ·exact(aM iv.out rfl).ah ((ac.refl _).alloc _)
    ·rw[<-aX t];exact fs _ _ _ _ (by simp) (by simp) (by simp) (by simp)
    ·rw[ci];simp;omega
    rintro e w7 ⟨v7,rfl,db,bC⟩;have hrel:=gk.out (1,t.1.1,0) v7 w7 ⟨rfl,.inl rfl⟩ (by simp;omega) (.inl rfl) (cC db (by have:=de.out.size;simp at this |-;omega)) (((eM.out.ah ((ac.refl _).alloc _)).ah bC).le (by omega)) (bE de.out (((ac.refl _).alloc _).trans bC));have bn:=aa hrel;clear hrel db bC d0 d1 d2;go_wp2;exact⟨bn.out,by simp[intOf];omega⟩
   ·subst h;clear oe hb4;go_wp2_with fail;refine(cJ.out _ _ (1,t.1.1,0) rfl ?_ ?_ ?_).mono ?_
    ·exact(aM iv.out rfl).ah ((ac.refl _).alloc _)
    ·rw[<-aX t];exact fs _ _ _ _ (by simp) (by simp) (by simp) (by simp)
    ·rw[ci];simp;omega
    rintro e w7 ⟨v7,rfl,db,bC⟩;have hrel:=gk.out (1,t.1.1,0) v7 w7 ⟨rfl,.inl rfl⟩ (by simp;omega) (.inl rfl) (cC db (by have:=de.out.size;simp at this |-;omega)) (((eM.out.ah ((ac.refl _).alloc _)).ah bC).le (by omega)) (bE de.out (((ac.refl _).alloc _).trans bC));have bn:=aa hrel;clear hrel db bC d0 d1 d2;go_wp2;exact⟨bn.out,by simp[intOf];omega⟩
   ·subst h;clear oe hb4;go_wp2_with fail;refine(cJ.out _ _ (1,t.1.1,0) rfl ?_ ?_ ?_).mono ?_
    ·exact(aM iv.out rfl).ah ((ac.refl _).alloc _)
    ·rw[<-aX t];exact fs _ _ _ _ (by simp) (by simp) (by simp) (by simp)
    ·rw[ci];simp;omega
    rintro e w7 ⟨v7,rfl,db,bC⟩;have hrel:=gk.out (1,t.1.1,0) v7 w7 ⟨rfl,.inl rfl⟩ (by simp;omega) (.inl rfl) (cC db (by have:=de.out.size;simp at this |-;omega)) (((eM.out.ah ((ac.refl _).alloc _)).ah bC).le (by omega)) (bE de.out (((ac.refl _).alloc _).trans bC));have bn:=aa hrel;clear hrel db bC d0 d1 d2;go_wp2;exact⟨bn.out,by simp[intOf];omega⟩
   subst h;clear oe hb4;go_wp2_with fail;refine(cJ.out _ _ (1,t.1.1,0) rfl ?_ ?_ ?_).mono ?_
   ·exact(aM iv.out rfl).ah ((ac.refl _).alloc _)
   ·rw[<-aX t];exact fs _ _ _ _ (by simp) (by simp) (by simp) (by simp)
   ·rw[ci];simp;omega
   rintro e w7 ⟨v7,rfl,db,bC⟩;have hrel:=gk.out (1,t.1.1,0) v7 w7 ⟨rfl,.inl rfl⟩ (by simp;omega) (.inl rfl) (cC db (by have:=de.out.size;simp at this |-;omega)) (((eM.out.ah ((ac.refl _).alloc _)).ah bC).le (by omega)) (bE de.out (((ac.refl _).alloc _).trans bC));have bn:=aa hrel;clear hrel db bC d0 d1 d2;go_wp2;exact⟨bn.out,by simp[intOf];omega⟩
  have z:¬(0:Int)<(i:Int):=by omega
  have z0:i=0:=by omega
  subst z0;go_wp2_with fail;refine wp_loop_rounds 1 ?_;rw[rounds_succ];go_wp2;go_ret;exact⟨_,f,rfl,HO.out,MF.out,by omega,by omega,HG.out.le (by omega),HK.out⟩
end
section
theorem dm{P:Program}{md:Region.Mode}{ops:Array Oper}{Q:Exit->Act->VO->Prop}{fuel:Nat}{l l':Array Bool}{a:Act}{w:VO}(h:l=l')(hw:wpAny P md ops Q fuel l' a w):wpAny P md ops Q fuel l a w:=by subst h;exact hw
theorem nd{ops:Array Oper}{o:Oper}{a:Act}{w:VO}{K:Act->VO->Prop}{Q:Exit->Act->VO->Prop}{E:Prop}(hgd:o.guard=none)(s x:Operand)
  (ho:o.op=.call { callee:=.builtin .append,args:=#[s,x],argTypes:=#[37,37] })
  (base:Nat) (v:Value) (n:Nat) (O:List St.It) (hs:a.eval s=v) (hown:w.ownsRow base 36 3 v n (av O))
  (ad:Addr) (m c:Nat) (f:List St.It) (hx:a.eval x=VF (some ad) m c) (hI:aE w (some ad) f) (hm:f.length=m) (h63:n+m<=200000) (hbase:base<=w.1.size)
  (h:∀v' w',w'.ownsRow base 36 3 v' (n+m) (av (O++f))->w.grownBy w' v.ownBlock->K (a.put o.dst v') w'):if Region.wanted o (yielded ops a.tmps)=true then Oper.wp Tryz.prog o a w K Q else E:=by
 obtain⟨i0,hi,hz0,hz1,hz2⟩:=info_parts dA;refine bW hgd s x 37 ho base 36 i0 (.agg #[.int .i64 0,.string ⟨#[]⟩,.int .i64 0]) 3 32 Tryz.underlying37 hi hz0 hz1 hz2 rfl (by decide) v n _ hs hown ad m c (av f) hx (by rw[jz,hm]) hI.cells (pj f) (by unfold maxLen;omega) (by omega) hbase ?_;intro v' w' ho' hg _;exact h v' w' (by rw[lS];exact ho') hg
theorem EK{w:VO}{b off:Nat}{f:List St.It}(h:aE w (some ⟨b,off,none⟩) f)(q:Nat):aE w (some ⟨b,off+q*3,none⟩) (f.drop q):=by
 intro h0;simp at h0;obtain⟨b',off',e,hb,hc⟩:=h (by omega);obtain⟨rfl,rfl⟩:b=b'/\off=off':=by simp at e;exact e
 refine⟨b,off+q*3,rfl,hb,λj hj=>?_⟩;simp at hj;have:=hc (q+j) (by omega)
 simp only[List.getElem_drop];rw[show off+q*3+j*3=off+(q+j)*3 by omega];exact this
theorem tW{P:Program}{ops:Array Oper}{o:Oper}{a:Act}{w:VO}{K:Act->VO->Prop}{Q:Exit->Act->VO->Prop}{E:Prop}
  (hg:o.guard=none) (f:FuncId) (args:Array Value) (Po:Ending->VO->Prop) (hc:Calls P f args w Po)
  (hrun:(execOp a.eval o).run P w=.ok (.enter f args) w) (hK:∀e w',Po e w'->∃v,e=VL v/\K (a.put o.dst v) w') :
  if Region.wanted o (yielded ops a.tmps)=true then Oper.wp P o a w K Q else E:=by
 have hw:Region.wanted o (yielded ops a.tmps)=true:=by simp[Region.wanted,hg]
 rw[if_pos hw];unfold Oper.wp;rw[hrun];refine hc.mono ?_;intro e w' hp;obtain⟨v,rfl,hk⟩:=hK e w' hp;exact hk
theorem Nx{W':VO}{H e e' n n' b:Nat}{v9 v10:Value}{xs xs':List Value}{w2:VO}(h9:W'.ownsRow H e 3 v9 n xs)(h10:w2.ownsRow b e' 3 v10 n' xs')(hH:w2.1.size<=H):v9.ownBlock=none\/v9.ownBlock≠v10.ownBlock:=by
 cases h:v9.ownBlock with
 | none=>exact .inl rfl
 | some x=>
  refine .inr λe=>?_
  have h1:=ax h9 x h;have h2:=(h10.lt x e.symm).2;omega
def Kp(w:VO)(B g P n:Nat)(ns:Bool)(s9 cW ga s12:Value)(wr:VO):Prop:=∃(i k c:Nat) (f op:List St.It),s12=VD VJ i/\ga=VD VJ c/\k+i<=n/\wr.ownsRow w.1.size 36 3 s9 f.length (av f)/\wr.ownsRow w.1.size 36 3 cW op.length (av op)/\(s9.ownBlock=none\/s9.ownBlock≠cW.ownBlock)/\St.fH ns f op c/\f.length<=k/\op.length<=k/\c<=k/\aP f<=18*k/\bm wr B g (P+1+9*k)/\w.grownBy wr (some g)
def zD(w:VO)(B g P n:Nat)(ns:Bool)(e:Ending)(w':VO):Prop:=∃(v:Value) (f op:List St.It) (c:Nat),e=VL v/\w'.ownsRow w.1.size 36 3 v f.length (av f)/\St.fH ns f op c/\f.length<=n/\aP f<=18*n/\bm w' B g (P+1+9*n)/\w.grownBy w' (some g)
end
section
theorem jN{P:Program}{md:Region.Mode}{ops:Array Oper}{Q:Exit->Act->VO->Prop}{S:VO->Prop}{fuel:Nat}{l l':Array Bool}{a:Act}{w:VO}(h:l=l')(hw:wpAnyH P md ops Q S fuel l' a w):wpAnyH P md ops Q S fuel l a w:=by subst h;exact hw
theorem sS{ops:Array Oper}{o:Oper}{a:Act}{w:VO}{K:Act->VO->Prop}{Q:Exit->Act->VO->Prop}{E:Prop}(hgd:o.guard=none)(s x:Operand)
  (ho:o.op=.call { callee:=.builtin .append,args:=#[s,x],argTypes:=#[37,37] })
  (base:Nat) (v:Value) (n:Nat) (O:List St.It) (hs:a.eval s=v) (hown:w.ownsRow base 36 3 v n (av O))
  (ad:Addr) (m c:Nat) (f:List St.It) (hx:a.eval x=VF (some ad) m c) (hI:aE w (some ad) f) (hm:f.length=m) (h63:n+m<=200000) (hbase:base<=w.1.size)
  (h:∀v' w',w'.ownsRow base 36 3 v' (n+m) (av (O++f))->w.grownBy w' v.ownBlock->oB w v v'->K (a.put o.dst v') w'):if Region.wanted o (yielded ops a.tmps)=true then Oper.wp Tryz.prog o a w K Q else E:=by
 obtain⟨i0,hi,hz0,hz1,hz2⟩:=info_parts dA;refine iV hgd s x 37 ho base 36 i0 (.agg #[.int .i64 0,.string ⟨#[]⟩,.int .i64 0]) 3 32 Tryz.underlying37 hi hz0 hz1 hz2 rfl (by decide) v n _ hs hown ad m c (av f) hx (by rw[jz,hm]) hI.cells (pj f) (by unfold maxLen;omega) (by omega) hbase ?_;intro v' w' ho' hg hf;exact h v' w' (by rw[lS];exact ho') hg hf
theorem I0{f op:List St.It}{c q:Nat}(h:St.fH true f (op.take (q+1)) c)(hq:q<op.length):St.fH true (f++[(3,St.nameOf op[q].2.1,op[q].2.2)]) (op.take q) c:=by
 have hl:(op.take (q+1)).length=q+1:=by simp;omega
 have:=St.fH.closed (ns:=true) q (by omega) (λ_=>hl.symm) h
 rw[St.zW (show(3:Int)≠1 by decide)]at this;have e1:(op.take (q+1))[q]'(by omega)=op[q]:=by simp
 have e2:(op.take (q+1)).take q++(op.take (q+1)).drop (q+1)=op.take q:=by
  rw[List.drop_of_length_le (by omega),List.append_nil,List.take_take];congr 1;omega
 rw[e1,e2]at this;exact this
def Pn(w:VO)(B g P n:Nat)(op:List St.It)(v10:Value)(c:Nat)(s9 oy:Value)(wr:VO):Prop:=∃(j:Nat) (z:Int) (f:List St.It),oy=VD VJ z/\z=(j:Int)-1/\j<=op.length/\wr.ownsRow w.1.size 36 3 s9 f.length (av f)/\wr.ownsRow w.1.size 36 3 v10 op.length (av op)/\(s9.ownBlock=none\/s9.ownBlock≠v10.ownBlock)/\St.fH true f (op.take j) c/\f.length+j<=2*n/\aP f+5*j<=23*n/\bm wr B g (P+1+9*n)/\w.grownBy wr (some g)
def zC(w:VO)(B g P n:Nat)(e:Ending)(w':VO):Prop:=∃(v:Value) (f:List St.It) (c:Nat),e=VL v/\w'.ownsRow w.1.size 36 3 v f.length (av f)/\St.fH true f [] c/\f.length<=2*n/\aP f<=23*n/\c<=n/\bm w' B g (P+1+9*n)/\w.grownBy w' (some g)
def Iu(w:VO)(B g P n:Nat)(ns:Bool)(e:Ending)(w':VO):Prop:=cond ns (zC w B g P n e w') (zD w B g P n false e w')
theorem xW(ns:Bool)(B g P n:Nat)(w:VO)(hG:bm w B g P)(hP:P<=100000)(hn:n<=100) :
  Calls Tryz.prog 66 #[VH (some ⟨g,0,none⟩),VD VJ n,VG true,VG ns] w (Iu w B g P n ns):=by
 have HG:=aa hG;obtain⟨jD,hB⟩:=hG.lt;obtain⟨i0,hi,hz0,hz1,hz2⟩:=info_parts dA;clear hG;go_enter Tryz.func66,Tryz.ntmps66;go_wp2_with fail;refine(bN B g P ((n:Int)+1) _ HG.out (by omega) (by omega) (by omega)).mono ?_;rintro e w2 ⟨r,rfl,hr,hG2,hk⟩;have HG2:=aa hG2;have fQ:=aa hk;clear hG2 hk HG;go_wp2_with fail;go_loopw [9,10,11,12] (λs9 cW ga s12 wr=>Kp w B g P n ns s9 cW ga s12 wr) (λ_ _ _ s12 _=>(intOf s12).toNat)
 case atStart=>exact⟨r,0,0,[],[],rfl,rfl,by omega,World.ownsRow_nil _ _ _ _,World.ownsRow_nil _ _ _ _,.inl rfl,.nil,by simp,by simp,by omega,by simp[aP],HG2.out,fQ.out⟩
 case round=>
  clear HG2 fQ hr;obtain⟨i,k,c,f,op,rfl,rfl,ye,hown,hownp,ij,lp,hfl,hol,jC,hft,hG,hk⟩:=hrel;have HG:=aa hG;have HK:=aa hk;have HO:=aa hown;have HP:=aa hownp;have HD:=aa ij;have iM:=aa lp;clear hG hk hown hownp ij lp
  by_cases Va:0<i
  ·have z:(0:Int)<(i:Int):=by omega
   obtain⟨wo,rfl⟩:∃wo:VO,wo=wr:=⟨_,rfl⟩;go_wp2_with fail;refine(uF B g _ 3 _ HG.out (by omega) (by omega)).mono ?_;rintro e w3 ⟨t,rfl,hts,hG3,hk3⟩;have gJ:=aa hG3;have ff:=aa (aK HK.out hk3 (λ_ e=>.inl e));have eS:=aa (eC HO.out hk3 (by omega));have xz:=aa (eC HP.out hk3 (by omega));clear hG3 hk3 HG HK HO HP;have Ou:=ff.out.size;obtain⟨A9,c9,rfl,_,_,hA9⟩:=aJ eS.out;obtain⟨fK,bl,rfl,h10c,h10m,hA10⟩:=aJ xz.out;have dW:∀x,(VF A9 f.length c9).ownBlock=some x->x<w3.1.size:=λx hx=>(eS.out.lt x hx).2
   have vG:∀x,(VF fK op.length bl).ownBlock=some x->x<w3.1.size:=λx hx=>(xz.out.lt x hx).2
   have iC:∀(W:VO) (b:Nat) (x:St.It),aE W A9 f->aE W (some ⟨b,0,none⟩) [x]->aP (f++[x])<=4611686018427387904->Calls Tryz.prog 44 #[VF A9 f.length c9,VF (some ⟨b,0,none⟩) 1 1] W λe w'=>∃v,e=VL v/\w'.ownsRow W.1.size 36 3 v (St.aV f x).length (av (St.aV f x))/\ac W w':=by
    intro W b x h h' ht;have:=gU A9 f.length c9 f (some ⟨b,0,none⟩) 1 1 [x] W rfl rfl (λe=>by have:=hA9 e;omega) (λe=>by cases e) h h' (by omega) ht
    rw[St.ew,iM.out.nm]at this;exact this
   have cJ:=aa iC;clear iC
   have fin:∀(x:St.It) (v7 v10:Value) (w6 w7:VO) (eG:List St.It) (c':Nat) (ga:Value),ga=VD VJ (c':Nat)->St.fH ns (St.aV f x) eG c'->x.2.1.length<=18->eG.length<=op.length+1->c'<=c+1->w7.ownsRow w6.1.size 36 3 v7 (St.aV f x).length (av (St.aV f x))->w6.ownsRow w.1.size 36 3 v10 eG.length (av eG)->ac w6 w7->w.1.size<=w6.1.size->bm w7 B g (P+1+9*(k+1))->w.grownBy w7 (some g)->Kp w B g P n ns v7 v10 ga (VD VJ ((i:Int)-1)) w7:=by
    intro x v7 v10 w6 w7 eG c' ga So hg hx ho' hc' db gy bC hwz hG hk;have h1:=(St.ic f x).1;have h2:=gQ f x;exact⟨i-1,k+1,c',St.aV f x,eG,congrArg (VD VJ) (by omega),So,by omega,cC db hwz,aA bC gy,Nx db gy (Nat.le_refl _),hg,by omega,by omega,by omega,by omega,hG,hk⟩
   have gk:=aa fin;clear fin;have tM:g<w3.1.size:=by omega
   go_wp2_with fail;refine(bN B g _ 8 _ (gJ.out.ah ((ac.refl _).alloc _)) (by omega) (by omega) (by omega)).mono ?_;rintro e w4 ⟨r,rfl,hr,hG4,hk4⟩;have eM:=aa hG4;have de:=aa (aK (bE ff.out ((ac.refl _).alloc (VK #[VD VJ 1,VE t,VD VJ 0] 36))) hk4 (λ_ e=>.inl e));have iv:=aa (eC (eS.out.alloc (VK #[VD VJ 1,VE t,VD VJ 0] 36)) hk4 (by omega));have pE:=aa (eC (xz.out.alloc (VK #[VD VJ 1,VE t,VD VJ 0] 36)) hk4 (by omega));have hb4:w4.1[w3.1.size]?=some (VK #[VD VJ 1,VE t,VD VJ 0] 36 (0,0)):=(hk4.block w3.1.size (by simp) (by simp;omega)).trans (heap_alloc_new w3 _);have mN:w3.1.size<w4.1.size:=ae hb4;have d0:w4.cell? ⟨w3.1.size,0,none⟩=some (VD VJ 1):=ai hb4 0;have d1:w4.cell? ⟨w3.1.size,1,none⟩=some (VE t):=ai hb4 1;have d2:w4.cell? ⟨w3.1.size,2,none⟩=some (VD VJ 0):=ai hb4 2;haveI:af w3.1.size w4:=af.of mN;have oe:r<8:=by omega
   clear hG4 hk4 gJ ff eS xz hr;rcases(show(r=0\/r=1)\/r=2\/(r=3\/r=4)\/(r=5\/r=6)\/r=7 by omega)with h|h|h|h|h
   ·rcases h with h|h
    all_goals
     subst h;clear oe d0 d1 d2;go_wp2_with fail;refine(bN B g _ 3 _ (eM.out.ah ((ac.refl _).alloc (VK #[VE ⟨#[110]⟩,VE ⟨#[110,97,109,101]⟩,VE ⟨#[120,49]⟩] 9))) (by omega) (by omega) (by omega)).mono ?_;rintro e w5 ⟨q,rfl,hq,hG5,hk5⟩
     obtain⟨u,hu,j7,hun⟩:∃u:ByteArray,(#[VE ⟨#[110]⟩,VE ⟨#[110,97,109,101]⟩,VE ⟨#[120,49]⟩]:Array Value)[q]?=some (VE u)/\u.size<=5/\St.aS u.1.1=true:=by
      rcases(show q=0\/q=1\/q=2 by omega)with h|h|h<;>subst h<;>exact⟨_,rfl,by decide,by decide⟩
     have hcell:=gB w4 w5 _ _ B g hk5 jD (by omega) q _ hu;have jl:=aa hG5;have nG:=aa (aK (bE de.out ((ac.refl _).alloc (VK #[VE ⟨#[110]⟩,VE ⟨#[110,97,109,101]⟩,VE ⟨#[120,49]⟩] 9))) hk5 (λ_ e=>.inl e));have eI:=aa (eC (iv.out.alloc (VK #[VE ⟨#[110]⟩,VE ⟨#[110,97,109,101]⟩,VE ⟨#[120,49]⟩] 9)) hk5 (by omega));have rK:=aa (eC (pE.out.alloc (VK #[VE ⟨#[110]⟩,VE ⟨#[110,97,109,101]⟩,VE ⟨#[120,49]⟩] 9)) hk5 (by omega));have bR:w5.1[w3.1.size]?=some (VK #[VD VJ 1,VE t,VD VJ 0] 36 (0,0)):=(hk5.block w3.1.size (by simp;omega) (by simp;omega)).trans ((((ac.refl w4).alloc _).below.block w3.1.size mN).trans hb4);haveI:af w4.1.size w5:=af.of (cd _ _ hcell);have vJ:q<3:=by omega
     have f0:w5.frozen? ⟨w3.1.size,0,none⟩=false:=bg bR 0;have f1:w5.frozen? ⟨w3.1.size,1,none⟩=false:=bg bR 1;have f2:w5.frozen? ⟨w3.1.size,2,none⟩=false:=bg bR 2;have g0:w5.cell? ⟨w3.1.size,0,none⟩=some (VD VJ 1):=ai bR 0;have g1:w5.cell? ⟨w3.1.size,1,none⟩=some (VE t):=ai bR 1;have g2:w5.cell? ⟨w3.1.size,2,none⟩=some (VD VJ 0):=ai bR 2;haveI:af w3.1.size w5:=af.of (ae bR);have hob:(VF A9 f.length c9).ownBlock≠some w3.1.size:=λe=>by have:=dW _ e;omega
     have iE:(VF fK op.length bl).ownBlock≠some w3.1.size:=λe=>by have:=vG _ e;omega
     have hkey:∀W,W=((w5.setCell ⟨w3.1.size,0,none⟩ (VD VJ 5)).setCell ⟨w3.1.size,1,none⟩ (VE u)).setCell ⟨w3.1.size,2,none⟩ (VD VJ 0)->W.ownsRow w.1.size 36 3 (VF A9 f.length c9) f.length (av f)/\W.ownsRow w.1.size 36 3 (VF fK op.length bl) op.length (av op)/\bm W B g (P+1+9*(k+1))/\w.grownBy W (some g)/\W.1.size=w5.1.size/\W.1[w3.1.size]?=some (VK #[VD VJ 5,VE u,VD VJ 0] 36 (0,0)):=by
      intro W hW;subst hW;have hBb:∀x,some w3.1.size=some x->B<=x:=λx e=>by cases e;omega
      refine⟨aF (aF (aF eI.out hob) hob) hob,aF (aF (aF rK.out iE) iE) iE,?_,bM (bM (bM nG.out _ _ (.inr (by show w.1.size<=w3.1.size;omega))) _ _ (.inr (by show w.1.size<=w3.1.size;omega))) _ _ (.inr (by show w.1.size<=w3.1.size;omega)),by simp,heap_setCell_same _ w3.1.size 2 _ _ _ (heap_setCell_same _ w3.1.size 1 _ _ _ (heap_setCell_same w5 w3.1.size 0 _ _ _ bR))⟩;exact(((jl.out.gb (cD w5 ⟨w3.1.size,0,none⟩ _) hBb).gb (cD _ ⟨w3.1.size,1,none⟩ _) hBb).gb (cD _ ⟨w3.1.size,2,none⟩ _) hBb).le (by omega)
     have HKEY:=aa (hkey _ rfl);have wP:=HKEY.out.2.2.1.lt.2;clear hG5 hk5 eM de iv pE hkey hu hq;go_wp2_with fail;refine(cJ.out _ _ (5,u.1.1,0) ?_ ?_ ?_).mono ?_
     ·exact(aM HKEY.out.1 rfl).ah ((ac.refl _).alloc _)
     ·rw[<-aX u];exact fs _ _ _ _ (by simp) (by rw[World.cell?_alloc_at _ _ _ _ (by simp)];rfl) (by rw[World.cell?_alloc_at _ _ _ _ (by simp)];rfl) (by rw[World.cell?_alloc_at _ _ _ _ (by simp)];rfl)
     ·rw[ci];simp;omega
     rintro e w7 ⟨v7,rfl,db,bC⟩;have hrel:=gk.out (5,u.1.1,0) v7 _ _ w7 op c _ rfl (iM.out.slot _ hun) (by simp;omega) (by omega) (by omega) db (HKEY.out.2.1.alloc _) bC (by have:=HKEY.out.2.2.2.1.size;simp at this |-;omega) ((HKEY.out.2.2.1.ah ((ac.refl _).alloc _)).ah bC) (bE HKEY.out.2.2.2.1 (((ac.refl _).alloc _).trans bC));have bn:=aa hrel;clear hrel db bC hcell;go_wp2;exact⟨bn.out,by simp[intOf];omega⟩
   ·subst h;clear oe d0 d1 d2;go_wp2_with fail;refine(bN B g _ 2 _ (eM.out.ah ((ac.refl _).alloc (VK #[VE ⟨#[98,114]⟩,VE ⟨#[105,109,103,32,97]⟩] 9))) (by omega) (by omega) (by omega)).mono ?_;rintro e w5 ⟨q,rfl,hq,hG5,hk5⟩
    obtain⟨u,hu,j7,hun⟩:∃u:ByteArray,(#[VE ⟨#[98,114]⟩,VE ⟨#[105,109,103,32,97]⟩]:Array Value)[q]?=some (VE u)/\u.size<=5/\u.1.1∈St.Rj:=by
     rcases(show q=0\/q=1 by omega)with h|h<;>subst h<;>exact⟨_,rfl,by decide,by decide⟩
    have hcell:=gB w4 w5 _ _ B g hk5 jD (by omega) q _ hu;have jl:=aa hG5;have nG:=aa (aK (bE de.out ((ac.refl _).alloc (VK #[VE ⟨#[98,114]⟩,VE ⟨#[105,109,103,32,97]⟩] 9))) hk5 (λ_ e=>.inl e));have eI:=aa (eC (iv.out.alloc (VK #[VE ⟨#[98,114]⟩,VE ⟨#[105,109,103,32,97]⟩] 9)) hk5 (by omega));have rK:=aa (eC (pE.out.alloc (VK #[VE ⟨#[98,114]⟩,VE ⟨#[105,109,103,32,97]⟩] 9)) hk5 (by omega));have bR:w5.1[w3.1.size]?=some (VK #[VD VJ 1,VE t,VD VJ 0] 36 (0,0)):=(hk5.block w3.1.size (by simp;omega) (by simp;omega)).trans ((((ac.refl w4).alloc _).below.block w3.1.size mN).trans hb4);haveI:af w4.1.size w5:=af.of (cd _ _ hcell);have vJ:q<2:=by omega
    have f0:w5.frozen? ⟨w3.1.size,0,none⟩=false:=bg bR 0;have f1:w5.frozen? ⟨w3.1.size,1,none⟩=false:=bg bR 1;have f2:w5.frozen? ⟨w3.1.size,2,none⟩=false:=bg bR 2;have g0:w5.cell? ⟨w3.1.size,0,none⟩=some (VD VJ 1):=ai bR 0;have g1:w5.cell? ⟨w3.1.size,1,none⟩=some (VE t):=ai bR 1;have g2:w5.cell? ⟨w3.1.size,2,none⟩=some (VD VJ 0):=ai bR 2;haveI:af w3.1.size w5:=af.of (ae bR);have hob:(VF A9 f.length c9).ownBlock≠some w3.1.size:=λe=>by have:=dW _ e;omega
    have iE:(VF fK op.length bl).ownBlock≠some w3.1.size:=λe=>by have:=vG _ e;omega
    have hkey:∀W,W=((w5.setCell ⟨w3.1.size,0,none⟩ (VD VJ 4)).setCell ⟨w3.1.size,1,none⟩ (VE u)).setCell ⟨w3.1.size,2,none⟩ (VD VJ ((c:Int)+1))->W.ownsRow w.1.size 36 3 (VF A9 f.length c9) f.length (av f)/\W.ownsRow w.1.size 36 3 (VF fK op.length bl) op.length (av op)/\bm W B g (P+1+9*(k+1))/\w.grownBy W (some g)/\W.1.size=w5.1.size/\W.1[w3.1.size]?=some (VK #[VD VJ 4,VE u,VD VJ ((c:Int)+1)] 36 (0,0)):=by
     intro W hW;subst hW;have hBb:∀x,some w3.1.size=some x->B<=x:=λx e=>by cases e;omega
     refine⟨aF (aF (aF eI.out hob) hob) hob,aF (aF (aF rK.out iE) iE) iE,?_,bM (bM (bM nG.out _ _ (.inr (by show w.1.size<=w3.1.size;omega))) _ _ (.inr (by show w.1.size<=w3.1.size;omega))) _ _ (.inr (by show w.1.size<=w3.1.size;omega)),by simp,heap_setCell_same _ w3.1.size 2 _ _ _ (heap_setCell_same _ w3.1.size 1 _ _ _ (heap_setCell_same w5 w3.1.size 0 _ _ _ bR))⟩;exact(((jl.out.gb (cD w5 ⟨w3.1.size,0,none⟩ _) hBb).gb (cD _ ⟨w3.1.size,1,none⟩ _) hBb).gb (cD _ ⟨w3.1.size,2,none⟩ _) hBb).le (by omega)
    have HKEY:=aa (hkey _ rfl);have wP:=HKEY.out.2.2.1.lt.2;clear hG5 hk5 eM de iv pE hkey hu hq;go_wp2_with fail;refine(cJ.out _ _ (4,u.1.1,(c:Int)+1) ?_ ?_ ?_).mono ?_
    ·exact(aM HKEY.out.1 rfl).ah ((ac.refl _).alloc _)
    ·rw[<-aX u];exact bY _ _ _ _ _ (by simp) (by rw[World.cell?_alloc_at _ _ _ _ (by simp)];rfl) (by rw[World.cell?_alloc_at _ _ _ _ (by simp)];rfl) (by rw[World.cell?_alloc_at _ _ _ _ (by simp)];rfl)
    ·rw[ci];simp;omega
    rintro e w7 ⟨v7,rfl,db,bC⟩;have hrel:=gk.out (4,u.1.1,(c:Int)+1) v7 _ _ w7 op (c+1) (VD VJ ((c:Int)+1)) rfl (iM.out.empty _ hun) (by simp;omega) (by omega) (by omega) db (HKEY.out.2.1.alloc _) bC (by have:=HKEY.out.2.2.2.1.size;simp at this |-;omega) ((HKEY.out.2.2.1.ah ((ac.refl _).alloc _)).ah bC) (bE HKEY.out.2.2.2.1 (((ac.refl _).alloc _).trans bC));have bn:=aa hrel;clear hrel db bC hcell;go_wp2;exact⟨bn.out,by simp[intOf];omega⟩
   ·rcases h with h|h
    all_goals
     subst h;clear oe d0 d1 d2;go_wp2_with fail;refine(bN B g _ 3 _ (eM.out.ah ((ac.refl _).alloc (VK #[VE ⟨#[98]⟩,VE ⟨#[105]⟩,VE ⟨#[97,32,104,61,49]⟩] 9))) (by omega) (by omega) (by omega)).mono ?_;rintro e w5 ⟨q,rfl,hq,hG5,hk5⟩
     obtain⟨u,hu,j7,hun⟩:∃u:ByteArray,(#[VE ⟨#[98]⟩,VE ⟨#[105]⟩,VE ⟨#[97,32,104,61,49]⟩]:Array Value)[q]?=some (VE u)/\u.size<=5/\u.1.1∈St.OW:=by
      rcases(show q=0\/q=1\/q=2 by omega)with h|h|h<;>subst h<;>exact⟨_,rfl,by decide,by decide⟩
     have hcell:=gB w4 w5 _ _ B g hk5 jD (by omega) q _ hu;have jl:=aa hG5;have nG:=aa (aK (bE de.out ((ac.refl _).alloc (VK #[VE ⟨#[98]⟩,VE ⟨#[105]⟩,VE ⟨#[97,32,104,61,49]⟩] 9))) hk5 (λ_ e=>.inl e));have eI:=aa (eC (iv.out.alloc (VK #[VE ⟨#[98]⟩,VE ⟨#[105]⟩,VE ⟨#[97,32,104,61,49]⟩] 9)) hk5 (by omega));have rK:=aa (eC (pE.out.alloc (VK #[VE ⟨#[98]⟩,VE ⟨#[105]⟩,VE ⟨#[97,32,104,61,49]⟩] 9)) hk5 (by omega));have bR:w5.1[w3.1.size]?=some (VK #[VD VJ 1,VE t,VD VJ 0] 36 (0,0)):=(hk5.block w3.1.size (by simp;omega) (by simp;omega)).trans ((((ac.refl w4).alloc _).below.block w3.1.size mN).trans hb4);haveI:af w4.1.size w5:=af.of (cd _ _ hcell);have vJ:q<3:=by omega
     have f0:w5.frozen? ⟨w3.1.size,0,none⟩=false:=bg bR 0;have f1:w5.frozen? ⟨w3.1.size,1,none⟩=false:=bg bR 1;have f2:w5.frozen? ⟨w3.1.size,2,none⟩=false:=bg bR 2;have g0:w5.cell? ⟨w3.1.size,0,none⟩=some (VD VJ 1):=ai bR 0;have g1:w5.cell? ⟨w3.1.size,1,none⟩=some (VE t):=ai bR 1;have g2:w5.cell? ⟨w3.1.size,2,none⟩=some (VD VJ 0):=ai bR 2;haveI:af w3.1.size w5:=af.of (ae bR);have hob:(VF A9 f.length c9).ownBlock≠some w3.1.size:=λe=>by have:=dW _ e;omega
     have iE:(VF fK op.length bl).ownBlock≠some w3.1.size:=λe=>by have:=vG _ e;omega
     have hkey:∀W,W=((w5.setCell ⟨w3.1.size,0,none⟩ (VD VJ 2)).setCell ⟨w3.1.size,1,none⟩ (VE u)).setCell ⟨w3.1.size,2,none⟩ (VD VJ ((c:Int)+1))->W.ownsRow w.1.size 36 3 (VF A9 f.length c9) f.length (av f)/\W.ownsRow w.1.size 36 3 (VF fK op.length bl) op.length (av op)/\bm W B g (P+1+9*(k+1))/\w.grownBy W (some g)/\W.1.size=w5.1.size/\W.1[w3.1.size]?=some (VK #[VD VJ 2,VE u,VD VJ ((c:Int)+1)] 36 (0,0)):=by
      intro W hW;subst hW;have hBb:∀x,some w3.1.size=some x->B<=x:=λx e=>by cases e;omega
      refine⟨aF (aF (aF eI.out hob) hob) hob,aF (aF (aF rK.out iE) iE) iE,?_,bM (bM (bM nG.out _ _ (.inr (by show w.1.size<=w3.1.size;omega))) _ _ (.inr (by show w.1.size<=w3.1.size;omega))) _ _ (.inr (by show w.1.size<=w3.1.size;omega)),by simp,heap_setCell_same _ w3.1.size 2 _ _ _ (heap_setCell_same _ w3.1.size 1 _ _ _ (heap_setCell_same w5 w3.1.size 0 _ _ _ bR))⟩;exact(((jl.out.gb (cD w5 ⟨w3.1.size,0,none⟩ _) hBb).gb (cD _ ⟨w3.1.size,1,none⟩ _) hBb).gb (cD _ ⟨w3.1.size,2,none⟩ _) hBb).le (by omega)
     have HKEY:=aa (hkey _ rfl);have wP:=HKEY.out.2.2.1.lt.2;clear hG5 hk5 eM de iv pE hkey hu hq;go_wp2_with (at_builtin;refine wpList_append_own _ rfl _ _ 37 rfl w.1.size 36 i0 (.agg #[.int .i64 0,.string ⟨#[]⟩,.int .i64 0]) 3 32 Tryz.underlying37 hi hz0 hz1 hz2 rfl (by decide) (.slice fK op.length bl) op.length _ rfl (HKEY.out.2.1.alloc _) _ 1 1 [.int .i64 2,.string u,.int .i64 ((c:Int)+1)] rfl rfl ?_ (cG _ _ _) (by unfold maxLen;omega) (by omega) ?_ ?_)
     ·exact ee _ _ _ _ _ _ (by simp)
     ·have:=HKEY.out.2.2.2.1.size;simp at this |-;omega
     intro v' w6 hown' hgrow _;have hwk:=HKEY.out.2.2.2.1.size;have UK:=HKEY.out.2.2.2.2.1;have wS:=ae bR;have hrow:∀x,(VF fK op.length bl).ownBlock=some x->w.1.size<=x:=λx hx=>ax HKEY.out.2.1 x hx
     have jF:=(HKEY.out.1.alloc (VK #[VD VJ 2,VE u,VD VJ ((c:Int)+1)] 36)).kept hgrow HD.out;have eB:w6.1[w3.1.size]?=some (VK #[VD VJ 2,VE u,VD VJ ((c:Int)+1)] 36 (0,0)):=(hgrow.block w3.1.size (by simp;omega) (λe=>iE e.symm)).trans ((((ac.refl _).alloc _).below.block w3.1.size (by simp;omega)).trans HKEY.out.2.2.2.2.2)
     have gy:w6.ownsRow w.1.size 36 3 v' (op++[((2:Int),u.1.1,(c:Int)+1)]).length (av (op++[((2:Int),u.1.1,(c:Int)+1)])):=by
      rw[bw];simp only[aX,List.length_append,List.length_cons,List.length_nil];exact hown'
     have vE:bm w6 B g (P+1+9*(k+1)):=(HKEY.out.2.2.1.ah ((ac.refl _).alloc _)).gb hgrow (λx e=>Nat.le_trans hB (hrow x e));have C7:w.grownBy w6 (some g):=aK (bE HKEY.out.2.2.2.1 ((ac.refl _).alloc _)) hgrow (λx e=>.inr (hrow x e));have c0:w6.cell? ⟨w3.1.size,0,none⟩=some (VD VJ 2):=ai eB 0;have c1:w6.cell? ⟨w3.1.size,1,none⟩=some (VE u):=ai eB 1;have c2:w6.cell? ⟨w3.1.size,2,none⟩=some (VD VJ ((c:Int)+1)):=ai eB 2;haveI:af w3.1.size w6:=af.of (ae eB);obtain⟨Av,cv,rfl,_,_,_⟩:=aJ gy;have nH:=aa jF;have iQ:=aa gy;have pC:=aa vE;have u7:=aa C7;have hzz:=C7.size;clear hown' hgrow jF gy vE C7 eB hrow HKEY f0 f1 f2 g0 g1 g2 hcell;go_wp2_with fail;refine(cJ.out _ _ (2,u.1.1,(c:Int)+1) ?_ ?_ ?_).mono ?_
     ·exact(aM nH.out rfl).ah ((ac.refl _).alloc _)
     ·rw[<-aX u];exact bY _ _ _ _ _ (by simp) (by rw[World.cell?_alloc_at _ _ _ _ (by simp)];rfl) (by rw[World.cell?_alloc_at _ _ _ _ (by simp)];rfl) (by rw[World.cell?_alloc_at _ _ _ _ (by simp)];rfl)
     ·rw[ci];simp;omega
     rintro e w7 ⟨v7,rfl,db,bC⟩;have hrel:=gk.out (2,u.1.1,(c:Int)+1) v7 _ _ w7 (op++[((2:Int),u.1.1,(c:Int)+1)]) (c+1) (VD VJ ((c:Int)+1)) rfl (iM.out.opened _ hun) (by simp;omega) (by simp) (by omega) db (iQ.out.alloc _) bC (by simp;omega) ((pC.out.ah ((ac.refl _).alloc _)).ah bC) (bE u7.out (((ac.refl _).alloc _).trans bC));have bn:=aa hrel;clear hrel db bC;go_wp2;exact⟨by have h:=bn.out;simp only[List.length_append,List.length_cons,List.length_nil,Nat.zero_add]at h;exact h,by simp[intOf];omega⟩
   ·rcases h with h|h
    all_goals
     subst h;clear oe
     by_cases hop:op.length=0
     ·have y1:¬(0:Int)<=(op.length:Int)-1:=by omega
      have EC:op.length<=0:=by omega
      clear hop;cases ns
      ·have bR:=hb4;clear d0 d1 d2 hb4;have f0:w4.frozen? ⟨w3.1.size,0,none⟩=false:=bg bR 0;have f1:w4.frozen? ⟨w3.1.size,1,none⟩=false:=bg bR 1;have f2:w4.frozen? ⟨w3.1.size,2,none⟩=false:=bg bR 2;have g0:w4.cell? ⟨w3.1.size,0,none⟩=some (VD VJ 1):=ai bR 0;have g1:w4.cell? ⟨w3.1.size,1,none⟩=some (VE t):=ai bR 1;have g2:w4.cell? ⟨w3.1.size,2,none⟩=some (VD VJ 0):=ai bR 2;haveI:af w3.1.size w4:=af.of (ae bR);have hob:(VF A9 f.length c9).ownBlock≠some w3.1.size:=λe=>by have:=dW _ e;omega
       have iE:(VF fK op.length bl).ownBlock≠some w3.1.size:=λe=>by have:=vG _ e;omega
       have hkey:∀W,W=((w4.setCell ⟨w3.1.size,0,none⟩ (VD VJ 3)).setCell ⟨w3.1.size,1,none⟩ (VE ⟨#[98]⟩)).setCell ⟨w3.1.size,2,none⟩ (VD VJ ((c:Int)+1))->W.ownsRow w.1.size 36 3 (VF A9 f.length c9) f.length (av f)/\W.ownsRow w.1.size 36 3 (VF fK op.length bl) op.length (av op)/\bm W B g (P+1+9*(k+1))/\w.grownBy W (some g)/\W.1.size=w4.1.size/\W.1[w3.1.size]?=some (VK #[VD VJ 3,VE ⟨#[98]⟩,VD VJ ((c:Int)+1)] 36 (0,0)):=by
        intro W hW;subst hW;have hBb:∀x,some w3.1.size=some x->B<=x:=λx e=>by cases e;omega
        refine⟨aF (aF (aF iv.out hob) hob) hob,aF (aF (aF pE.out iE) iE) iE,?_,bM (bM (bM de.out _ _ (.inr (by show w.1.size<=w3.1.size;omega))) _ _ (.inr (by show w.1.size<=w3.1.size;omega))) _ _ (.inr (by show w.1.size<=w3.1.size;omega)),by simp,heap_setCell_same _ w3.1.size 2 _ _ _ (heap_setCell_same _ w3.1.size 1 _ _ _ (heap_setCell_same w4 w3.1.size 0 _ _ _ bR))⟩;exact(((eM.out.gb (cD w4 ⟨w3.1.size,0,none⟩ _) hBb).gb (cD _ ⟨w3.1.size,1,none⟩ _) hBb).gb (cD _ ⟨w3.1.size,2,none⟩ _) hBb).le (by omega)
       have HKEY:=aa (hkey _ rfl);have wP:=HKEY.out.2.2.1.lt.2;clear hkey;go_wp2_with fail;refine(cJ.out _ _ (3,[98],(c:Int)+1) ?_ ?_ ?_).mono ?_
       ·exact(aM HKEY.out.1 rfl).ah ((ac.refl _).alloc _)
       ·exact bY _ _ _ _ _ (by simp) (by rw[World.cell?_alloc_at _ _ _ _ (by simp)];rfl) (by rw[World.cell?_alloc_at _ _ _ _ (by simp)];rfl) (by rw[World.cell?_alloc_at _ _ _ _ (by simp)];rfl)
       ·rw[ci];simp;omega
       rintro e w7 ⟨v7,rfl,db,bC⟩;have hrel:=gk.out (3,[98],(c:Int)+1) v7 _ _ w7 op (c+1) (VD VJ ((c:Int)+1)) rfl (iM.out.stray rfl) (by simp) (by omega) (by omega) db (HKEY.out.2.1.alloc _) bC (by have:=HKEY.out.2.2.2.1.size;simp at this |-;omega) ((HKEY.out.2.2.1.ah ((ac.refl _).alloc _)).ah bC) (bE HKEY.out.2.2.2.1 (((ac.refl _).alloc _).trans bC));have bn:=aa hrel;clear hrel db bC;go_wp2;exact⟨bn.out,by simp[intOf];omega⟩
      clear hb4;go_wp2_with fail;refine(cJ.out _ _ (1,t.1.1,0) ?_ ?_ ?_).mono ?_
      ·exact(aM iv.out rfl).ah ((ac.refl _).alloc _)
      ·rw[<-aX t];exact fs _ _ _ _ (by simp) (by simp) (by simp) (by simp)
      ·rw[ci];simp;omega
      rintro e w7 ⟨v7,rfl,db,bC⟩;have hrel:=gk.out (1,t.1.1,0) v7 _ _ w7 op c _ rfl (iM.out.text _) (by simp;omega) (by omega) (by omega) db (pE.out.alloc _) bC (by have:=de.out.size;simp at this |-;omega) (((eM.out.ah ((ac.refl _).alloc _)).ah bC).le (by omega)) (bE de.out (((ac.refl _).alloc _).trans bC));have bn:=aa hrel;clear hrel db bC d0 d1 d2;go_wp2;exact⟨bn.out,by simp[intOf];omega⟩
     have y1:(0:Int)<=(op.length:Int)-1:=by omega
     cases ns
     case' false=>
      clear d0 d1 d2;go_wp2_with fail;refine(bN B g _ _ _ eM.out (by omega) ?_ ?_).mono ?_
      ·omega
      ·omega
      rintro e w5 ⟨q,rfl,hq,hG5,hk5⟩;have hq2:q<op.length:=by omega
      have jl:=aa hG5;have nG:=aa (aK de.out hk5 (λ_ e=>.inl e));have eI:=aa (eC iv.out hk5 (by omega));have rK:=aa (eC pE.out hk5 (by omega));have bR:w5.1[w3.1.size]?=some (VK #[VD VJ 1,VE t,VD VJ 0] 36 (0,0)):=(hk5.block w3.1.size (by omega) (by simp;omega)).trans hb4
     case' true=>
      obtain⟨q,hq⟩:∃q,op.length=q+1:=⟨op.length-1,by omega⟩;have Ak:(op.length:Int)-1=(q:Int):=by omega
      rw[Ak]at y1;have hq2:q<op.length:=by omega
      obtain⟨w5,rfl⟩:∃w5:VO,w5=w4:=⟨_,rfl⟩;have jl:=eM;have nG:=de;have eI:=iv;have rK:=pE;have bR:=hb4;clear hq d0 d1 d2
     all_goals
      obtain⟨dr,off10,e10,iS,hc10⟩:=(aM rK.out rfl) (by omega);subst e10;obtain⟨p0,p1,p2⟩:=hc10 q hq2;have hsm:=(iM.out.small op[q] (List.getElem_mem hq2)).1;have lp:=St.fH.closed q hq2 (λe=>by cases e<;>omega) iM.out;generalize op[q]=y at p0 p1 p2 hsm lp;obtain⟨yk,yt,yi⟩:=y;simp only at p0 p1 p2 hsm lp;have Rt:=aa lp;clear hc10 lp;have hnl:=St.Bu yt;go_wp2_with fail;refine bt (λa b=>a.grownBy b (some w3.1.size)) (λL W=>if L 12=true then ∃W0,ac w5 W0/\W=((W0.setCell ⟨w3.1.size,0,none⟩ (VD VJ 3)).setCell ⟨w3.1.size,1,none⟩ (VE ⟨(St.nameOf yt).toArray⟩)).setCell ⟨w3.1.size,2,none⟩ (VD VJ yi)else ac w5 W) [λv _=>v=VF (some ⟨dr,off10,none⟩) op.length bl,λv _=>v=VD VJ q,λv _=>v=VH (some ⟨dr,off10+q*3,none⟩),λv _=>v=VH (some ⟨dr,off10+q*3+1,none⟩),λv _=>v=VE ⟨yt.toArray⟩,λv _=>v=VE ⟨(St.nameOf yt).toArray⟩,λv _=>v=VF (some ⟨dr,off10,none⟩) op.length bl,λv _=>v=VD VJ q,λv _=>v=VH (some ⟨dr,off10+q*3,none⟩),λv _=>v=VH (some ⟨dr,off10+q*3+2,none⟩),λv _=>v=VD VJ yi,λv _=>v=.agg #[VD VJ 3,VE ⟨(St.nameOf yt).toArray⟩,VD VJ yi],jJ] (λa=>bh a _) (λa b c h k=>aK h k (λ_ e=>.inl e)) (by kernel_rfl) (by rfl) (by kernel_rfl) (by kernel_rfl) ?_ ?_ ?_ ?_ ?_;rotate_left 1
      ·intro ρ;simp only[bP,Act.put,ap,ak,aq,Nat.zero_add,Nat.reduceAdd];exact rfl
      ·exact uZ
      ·refine aj.cons (λρ L W hR hI hL hD hO hF K hK=>?_) ?_
       ·clear hF hD hO;simp only[Act.put,ap,ak,aq]at hK |-;go_simp;refine hK _ _ (bh _ _) (by simpa[ar]using hI) (λW2 h2=>?_);rfl
       refine aj.cons (λρ L W hR hI hL hD hO hF K hK=>?_) ?_
       ·clear hF hD hO;simp only[Act.put,ap,ak,aq]at hK |-;go_simp;refine hK _ _ (bh _ _) (by simpa[ar]using hI) (λW2 h2=>?_);rfl
       refine aj.cons (λρ L W hR hI hL hD hO hF K hK=>?_) ?_
       ·have f0:=ag hF (j:=0) (by decide);have f1:=ag hF (j:=1) (by decide);clear hF hD hO;simp only[Act.put,ap,ak,aq]at hK |-;have e0:ρ 0=VF (some ⟨dr,off10,none⟩) op.length bl:=f0;have e1:ρ 1=VD VJ q:=f1;rw[e0,e1]at hK |-;have z1:(q:Int)<(op.length:Int):=by omega
        go_simp;refine hK _ _ (bh _ _) (by simpa[ar]using hI) (λW2 h2=>?_);rfl
       refine aj.cons (λρ L W hR hI hL hD hO hF K hK=>?_) ?_
       ·have f2:=ag hF (j:=2) (by decide);clear hF hD hO;simp only[Act.put,ap,ak,aq]at hK |-;have e2:ρ 2=VH (some ⟨dr,off10+q*3,none⟩):=f2;rw[e2]at hK |-;go_simp;refine hK _ _ (bh _ _) (by simpa[ar]using hI) (λW2 h2=>?_);rfl
       refine aj.cons (λρ L W hR hI hL hD hO hF K hK=>?_) ?_
       ·have f3:=ag hF (j:=3) (by decide);have h12:L 12=false:=hD.not (p:=12) rfl (by decide) hL;have lO:ac w5 W:=by simpa[h12]using hI
        clear hF hD hO;simp only[Act.put,ap,ak,aq]at hK |-;have e3:ρ 3=VH (some ⟨dr,off10+q*3+1,none⟩):=f3;rw[e3]at hK |-;have hc:=(lO.cell (p:=⟨dr,off10+q*3+1,none⟩) iS).trans p1;haveI:af dr W:=af.of (Nat.lt_of_lt_of_le iS lO.size);go_simp;refine hK _ _ (bh _ _) (by simpa[ar]using hI) (λW2 h2=>?_);rfl
       refine aj.cons (λρ L W hR hI hL hD hO hF K hK=>?_) ?_
       ·have f4:=ag hF (j:=4) (by decide);have h12:L 12=false:=hD.not (p:=12) rfl (by decide) hL;have lO:ac w5 W:=by simpa[h12]using hI
        clear hF hD hO;simp only[Act.put,ap,ak,aq]at hK |-;have e4:ρ 4=VE ⟨yt.toArray⟩:=f4;rw[e4]at hK |-;refine tW (o:=⟨some 86,_,_,_,_,_⟩) rfl 105 #[VE ⟨yt.toArray⟩] _ (jZ yt W (by omega)) ?_ ?_
        ·go_simp
        rintro e W2 ⟨rfl,hu⟩;exact⟨_,rfl,hK _ _ (hu.gb _) (by simpa[ar,h12]using lO.trans hu) (λW3 h3=>rfl)⟩
       refine aj.cons (λρ L W hR hI hL hD hO hF K hK=>?_) ?_
       ·clear hF hD hO;simp only[Act.put,ap,ak,aq]at hK |-;go_simp;refine hK _ _ (bh _ _) (by simpa[ar]using hI) (λW2 h2=>?_);rfl
       refine aj.cons (λρ L W hR hI hL hD hO hF K hK=>?_) ?_
       ·clear hF hD hO;simp only[Act.put,ap,ak,aq]at hK |-;go_simp;refine hK _ _ (bh _ _) (by simpa[ar]using hI) (λW2 h2=>?_);rfl
       refine aj.cons (λρ L W hR hI hL hD hO hF K hK=>?_) ?_
       ·have f6:=ag hF (j:=6) (by decide);have f7:=ag hF (j:=7) (by decide);clear hF hD hO;simp only[Act.put,ap,ak,aq]at hK |-;have e6:ρ 6=VF (some ⟨dr,off10,none⟩) op.length bl:=f6;have e7:ρ 7=VD VJ q:=f7;rw[e6,e7]at hK |-;have z1:(q:Int)<(op.length:Int):=by omega
        go_simp;refine hK _ _ (bh _ _) (by simpa[ar]using hI) (λW2 h2=>?_);rfl
       refine aj.cons (λρ L W hR hI hL hD hO hF K hK=>?_) ?_
       ·have f8:=ag hF (j:=8) (by decide);clear hF hD hO;simp only[Act.put,ap,ak,aq]at hK |-;have e8:ρ 8=VH (some ⟨dr,off10+q*3,none⟩):=f8;rw[e8]at hK |-;go_simp;refine hK _ _ (bh _ _) (by simpa[ar]using hI) (λW2 h2=>?_);rfl
       refine aj.cons (λρ L W hR hI hL hD hO hF K hK=>?_) ?_
       ·have f9:=ag hF (j:=9) (by decide);have h12:L 12=false:=hD.not (p:=12) rfl (by decide) hL;have lO:ac w5 W:=by simpa[h12]using hI
        clear hF hD hO;simp only[Act.put,ap,ak,aq]at hK |-;have e9:ρ 9=VH (some ⟨dr,off10+q*3+2,none⟩):=f9;rw[e9]at hK |-;have hc:=(lO.cell (p:=⟨dr,off10+q*3+2,none⟩) iS).trans p2;haveI:af dr W:=af.of (Nat.lt_of_lt_of_le iS lO.size);go_simp;refine hK _ _ (bh _ _) (by simpa[ar]using hI) (λW2 h2=>?_);rfl
       refine aj.cons (λρ L W hR hI hL hD hO hF K hK=>?_) ?_
       ·have f5:=ag hF (j:=5) (by decide);have f10:=ag hF (j:=10) (by decide);clear hF hD hO;simp only[Act.put,ap,ak,aq]at hK |-;have e5:ρ 5=VE ⟨(St.nameOf yt).toArray⟩:=f5;have e10:ρ 10=VD VJ yi:=f10;rw[e5,e10]at hK |-;go_simp;refine hK _ _ (bh _ _) (by simpa[ar]using hI) (λW2 h2=>?_);rfl
       refine aj.cons (λρ L W hR hI hL hD hO hF K hK=>?_) ?_
       ·have f11:=ag hF (j:=11) (by decide);have lO:ac w5 W:=by simpa[hL]using hI
        clear hF hD hO;simp only[Act.put,ap,ak,aq]at hK |-;have e11:ρ 11=.agg #[VD VJ 3,VE ⟨(St.nameOf yt).toArray⟩,VD VJ yi]:=f11;rw[e11]at hK |-;have hbW:=(lO.below.block w3.1.size (ae bR)).trans bR;have f0:W.frozen? ⟨w3.1.size,0,none⟩=false:=bg hbW 0;have f1:W.frozen? ⟨w3.1.size,1,none⟩=false:=bg hbW 1;have f2:W.frozen? ⟨w3.1.size,2,none⟩=false:=bg hbW 2;have g0:W.cell? ⟨w3.1.size,0,none⟩=some (VD VJ 1):=ai hbW 0;have g1:W.cell? ⟨w3.1.size,1,none⟩=some (VE t):=ai hbW 1;have g2:W.cell? ⟨w3.1.size,2,none⟩=some (VD VJ 0):=ai hbW 2;haveI:af w3.1.size W:=af.of (ae hbW);go_simp;refine hK undef _ (bM (bM (cD _ ⟨w3.1.size,0,none⟩ _) ⟨w3.1.size,1,none⟩ _ (.inl rfl)) ⟨w3.1.size,2,none⟩ _ (.inl rfl)) (by simp only[ar,if_true];exact⟨W,lO,rfl⟩) (λ_ _=>trivial)
       exact aj.nil
      intro ρ L W hR hI hL hF;have h12:L 12=true:=hL 12 (by decide);rw[if_pos h12]at hI;obtain⟨w6,dz,hW⟩:=hI;have CN:=aa (aA dz eI.out);have lK:=aa (aA dz rK.out);have pC:=aa (jl.out.ah dz);have u7:=aa (bE nG.out dz);have bR:=(dz.below.block w3.1.size (ae bR)).trans bR;have wS:=ae bR;clear hR hL hF h12;have f0:w6.frozen? ⟨w3.1.size,0,none⟩=false:=bg bR 0;have f1:w6.frozen? ⟨w3.1.size,1,none⟩=false:=bg bR 1;have f2:w6.frozen? ⟨w3.1.size,2,none⟩=false:=bg bR 2;have g0:w6.cell? ⟨w3.1.size,0,none⟩=some (VD VJ 1):=ai bR 0;have g1:w6.cell? ⟨w3.1.size,1,none⟩=some (VE t):=ai bR 1;have g2:w6.cell? ⟨w3.1.size,2,none⟩=some (VD VJ 0):=ai bR 2;haveI:af w3.1.size w6:=af.of (ae bR);have hob:(VF A9 f.length c9).ownBlock≠some w3.1.size:=λe=>by have:=dW _ e;omega
      have iE:(VF (some ⟨dr,off10,none⟩) op.length bl).ownBlock≠some w3.1.size:=λe=>by have:=vG _ e;omega
      have hkey:∀W,W=((w6.setCell ⟨w3.1.size,0,none⟩ (VD VJ 3)).setCell ⟨w3.1.size,1,none⟩ (VE ⟨(St.nameOf yt).toArray⟩)).setCell ⟨w3.1.size,2,none⟩ (VD VJ yi)->W.ownsRow w.1.size 36 3 (VF A9 f.length c9) f.length (av f)/\W.ownsRow w.1.size 36 3 (VF (some ⟨dr,off10,none⟩) op.length bl) op.length (av op)/\bm W B g (P+1+9*(k+1))/\w.grownBy W (some g)/\W.1.size=w6.1.size/\W.1[w3.1.size]?=some (VK #[VD VJ 3,VE ⟨(St.nameOf yt).toArray⟩,VD VJ yi] 36 (0,0)):=by
       intro W hW;subst hW;have hBb:∀x,some w3.1.size=some x->B<=x:=λx e=>by cases e;omega
       refine⟨aF (aF (aF CN.out hob) hob) hob,aF (aF (aF lK.out iE) iE) iE,?_,bM (bM (bM u7.out _ _ (.inr (by show w.1.size<=w3.1.size;omega))) _ _ (.inr (by show w.1.size<=w3.1.size;omega))) _ _ (.inr (by show w.1.size<=w3.1.size;omega)),by simp,heap_setCell_same _ w3.1.size 2 _ _ _ (heap_setCell_same _ w3.1.size 1 _ _ _ (heap_setCell_same w6 w3.1.size 0 _ _ _ bR))⟩;exact(((pC.out.gb (cD w6 ⟨w3.1.size,0,none⟩ _) hBb).gb (cD _ ⟨w3.1.size,1,none⟩ _) hBb).gb (cD _ ⟨w3.1.size,2,none⟩ _) hBb).le (by omega)
      have HKEY:=aa (hkey W hW);have wP:=HKEY.out.2.2.1.lt.2;have Vd:=HKEY.out.2.2.2.2.1;have Ob:=HKEY.out.2.2.2.1.size;have hit:=aM HKEY.out.2.1 rfl;have Ru:=aa (qF hit q);have Ex:=Rt.out;obtain⟨q1,hq1⟩:∃q1,q1=q+1:=⟨_,rfl⟩;rw[<-hq1]at Ex;have Pp:=aa Ex;clear Ex
      obtain⟨ox,hox,hit2⟩:∃ox,(if bl=q1 then(some ⟨dr,off10,none⟩:Option Addr)else some ⟨dr,off10+q1*3,none⟩)=some ⟨dr,ox,none⟩/\aE W (some ⟨dr,ox,none⟩) (op.drop q1):=by
       by_cases tK:bl=q1
       ·exact⟨off10,if_pos tK,λh0=>by simp at h0;omega⟩
       exact⟨off10+q1*3,if_neg tK,EK hit q1⟩
      have Rv:=aa hit2;clear hit2;have hw:IntKind.i64.wrap (q1:Int)=(q1:Int):=IntWalk.i64_in _ (by omega);have hw1:(q:Int)+1=(q1:Int):=by omega
      have hw2:(0:Int)<=(q1:Int):=by omega
      have hw3:(q1:Int)<=(op.length:Int):=by omega
      have hw4:q1<=op.length:=by omega
      have Vi:q+1<=q1:=by omega
      have Vj:q1<=q+1:=by omega
      clear hq1;have hbW:=HKEY.out.2.2.2.2.2;have GH:(q:Int)<=(op.length:Int):=by omega
      have hl4:(q:Int)<=(bl:Int):=by omega
      have C8:(op.length:Int)<=(bl:Int):=by omega
      haveI:af dr W:=af.of (by have:=dz.size;omega);clear hkey hW bR f0 f1 f2 g0 g1 g2 p0 p1 p2 hit dz;go_wp2_with fail;refine wp_region_any (by kernel_rfl) ?_
      try (change wpAny _ _ _ _ _ _ _ (World.drew _))
      refine dm (l':=#[bF,bF,bF,bF,bF,bF,bF,bF,bF,bF]) (by kernel_rfl) ?_;refine wpAny_take (i:=0) (v:=?_) rfl (by kernel_rfl) (by kernel_rfl) (by kernel_rfl) (λ_ _ _ h=>h) (Or.inl ⟨by rfl,?_⟩) ?_;rotate_left 1
      ·(intro W9;go_simp;try with_reducible rfl)
      try go_simp
      refine dm (l':=#[bT,bF,bF,bF,bF,bF,bF,bF,bF,bF]) (by kernel_rfl) ?_;refine wpAny_take (i:=1) (v:=?_) rfl (by kernel_rfl) (by kernel_rfl) (by kernel_rfl) (λ_ _ _ h=>h) (Or.inl ⟨by rfl,?_⟩) ?_;rotate_left 1
      ·(intro W9;go_simp;try with_reducible rfl)
      try go_simp
      refine dm (l':=#[bT,bT,bF,bF,bF,bF,bF,bF,bF,bF]) (by kernel_rfl) ?_;refine wpAny_take (i:=2) (v:=?_) rfl (by kernel_rfl) (by kernel_rfl) (by kernel_rfl) (λ_ _ _ h=>h) (Or.inl ⟨by rfl,?_⟩) ?_;rotate_left 1
      ·(intro W9;go_simp;try with_reducible rfl)
      try go_simp
      refine dm (l':=#[bT,bT,bT,bF,bF,bF,bF,bF,bF,bF]) (by kernel_rfl) ?_;refine wpAny_take (i:=4) (v:=?_) rfl (by kernel_rfl) (by kernel_rfl) (by kernel_rfl) (λ_ _ _ h=>h) (Or.inl ⟨by rfl,?_⟩) ?_;rotate_left 1
      ·(intro W9;go_simp;try with_reducible rfl)
      try go_simp
      refine dm (l':=#[bT,bT,bT,bF,bT,bF,bF,bF,bF,bF]) (by kernel_rfl) ?_;refine wpAny_take (i:=5) (v:=?_) rfl (by kernel_rfl) (by kernel_rfl) (by kernel_rfl) (λ_ _ _ h=>h) (Or.inl ⟨by rfl,?_⟩) ?_;rotate_left 1
      ·(intro W9;go_simp;try with_reducible rfl)
      try go_simp
      refine dm (l':=#[bT,bT,bT,bF,bT,bT,bF,bF,bF,bF]) (by kernel_rfl) ?_;refine wpAny_take (i:=6) (v:=?_) rfl (by kernel_rfl) (by kernel_rfl) (by kernel_rfl) (λ_ _ _ h=>h) (Or.inl ⟨by rfl,?_⟩) ?_;rotate_left 1
      ·(intro W9;go_simp;try with_reducible rfl)
      try go_simp
      refine dm (l':=#[bT,bT,bT,bF,bT,bT,bT,bF,bF,bF]) (by kernel_rfl) ?_;refine wpAny_take (i:=7) (v:=?_) rfl (by kernel_rfl) (by kernel_rfl) (by kernel_rfl) (λ_ _ _ h=>h) (Or.inl ⟨by rfl,?_⟩) ?_;rotate_left 1
      ·(intro W9;go_simp;try with_reducible rfl)
      try go_simp
      refine dm (l':=#[bT,bT,bT,bF,bT,bT,bT,bT,bF,bF]) (by kernel_rfl) ?_;refine wpAny_ready (rs:=[3]) (by kernel_rfl) (by simp) ?_;refine AllReady.cons (o:=⟨some 96,_,_,_,_,_⟩) rfl (λK hK=>?_) AllReady.nil;refine nd (o:=⟨some 96,_,_,_,_,_⟩) rfl _ _ rfl W.1.size (VF none 0 0) 0 [] rfl (World.ownsRow_nil _ _ _ _) ⟨dr,off10,none⟩ q bl (op.take q) rfl (Ru.out.ah (ac.refl W).drew) (by simp;omega) (by omega) (by exact Nat.le_refl _) ?_;intro Rk w8 od QX;have jq:ac W w8:=((ac.refl W).drew).grown QX (λg e=>by cases e);have gK:=aa (show w8.ownsRow W.1.size 36 3 Rk q (av (op.take q))by simpa using od);have mS:=aa jq;clear od QX jq
      try go_simp
      refine hK _ _ ?_;clear hK K;refine dm (l':=#[bT,bT,bT,bT,bT,bT,bT,bT,bF,bF]) (by kernel_rfl) ?_;refine wpAny_ready (rs:=[8]) (by kernel_rfl) (by simp) ?_;refine AllReady.cons (o:=⟨some 101,_,_,_,_,_⟩) rfl (λK hK=>?_) AllReady.nil;refine nd (o:=⟨some 101,_,_,_,_,_⟩) rfl _ _ rfl W.1.size Rk q (op.take q) rfl gK.out ⟨dr,ox,none⟩ (op.length-q1) (bl-q1) (op.drop q1) ?_ (Rv.out.ah mS.out) (by simp) (by omega) mS.out.size ?_
      ·first|rfl|(go_simp;try rfl)
      intro SC w9 jF sk;have kN:ac W w9:=mS.out.grown sk (λx e=>ax gK.out x e);have nH:=aa jF;have cM:=aa kN;clear jF sk kN
      try go_simp
      refine hK _ _ ?_;clear hK K;refine dm (l':=#[bT,bT,bT,bT,bT,bT,bT,bT,bT,bF]) (by kernel_rfl) ?_;refine wpAny_take (i:=9) (v:=?_) rfl (by kernel_rfl) (by kernel_rfl) (by kernel_rfl) (λ_ _ _ h=>h) (Or.inl ⟨by rfl,?_⟩) ?_;rotate_left 1
      ·(intro W9;go_simp;try with_reducible rfl)
      try go_simp
      refine dm (l':=#[bT,bT,bT,bT,bT,bT,bT,bT,bT,bT]) (by kernel_rfl) ?_;refine wpAny_done (by kernel_rfl) ?_ _;have EC:(op.take q++op.drop q1).length=op.length-1:=by simp;omega
      have Sm:q+(op.length-q1)=op.length-1:=by omega
      have gy:w9.ownsRow W.1.size 36 3 SC (op.take q++op.drop q1).length (av (op.take q++op.drop q1)):=by
       have:=nH.out
       rw[Sm]at this;rw[EC];exact this
      obtain⟨Av,cv,rfl,_,_,_⟩:=aJ gy;have vz:=(cM.out.below.block w3.1.size (ae hbW)).trans hbW;have c0:w9.cell? ⟨w3.1.size,0,none⟩=some (VD VJ 3):=ai vz 0;have c1:w9.cell? ⟨w3.1.size,1,none⟩=some (VE ⟨(St.nameOf yt).toArray⟩):=ai vz 1;have c2:w9.cell? ⟨w3.1.size,2,none⟩=some (VD VJ yi):=ai vz 2;haveI:af w3.1.size w9:=af.of (ae vz);have UX:=cM.out.size;have iQ:=aa gy;clear gy vz nH;go_wp2_with fail;refine(cJ.out _ _ (3,St.nameOf yt,yi) ?_ ?_ ?_).mono ?_
      ·exact((aM HKEY.out.1 rfl).ah cM.out).ah ((ac.refl _).alloc _)
      ·exact bY _ _ _ _ _ (by simp) (by rw[World.cell?_alloc_at _ _ _ _ (by simp)];rfl) (by rw[World.cell?_alloc_at _ _ _ _ (by simp)];rfl) (by rw[World.cell?_alloc_at _ _ _ _ (by simp)];rfl)
      ·rw[ci];simp;omega
      rintro e w7 ⟨v7,rfl,db,bC⟩;have hrel:=gk.out (3,St.nameOf yt,yi) v7 _ _ w7 (op.take q++op.drop q1) c _ rfl Pp.out (by show(St.nameOf yt).length<=18;omega) (by omega) (by omega) db ((cC iQ.out (by omega)).alloc _) bC (by simp;omega) (((HKEY.out.2.2.1.ah cM.out).ah ((ac.refl _).alloc _)).ah bC) (bE (bE HKEY.out.2.2.2.1 cM.out) (((ac.refl _).alloc _).trans bC));have bn:=aa hrel;clear hrel db bC;go_wp2;exact⟨by have h:=bn.out;rw[EC]at h;exact h,by simp[intOf];omega⟩
   subst h;clear oe hb4;go_wp2_with fail;refine(cJ.out _ _ (1,t.1.1,0) ?_ ?_ ?_).mono ?_
   ·exact(aM iv.out rfl).ah ((ac.refl _).alloc _)
   ·rw[<-aX t];exact fs _ _ _ _ (by simp) (by simp) (by simp) (by simp)
   ·rw[ci];simp;omega
   rintro e w7 ⟨v7,rfl,db,bC⟩;have hrel:=gk.out (1,t.1.1,0) v7 _ _ w7 op c _ rfl (iM.out.text _) (by simp;omega) (by omega) (by omega) db (pE.out.alloc _) bC (by have:=de.out.size;simp at this |-;omega) (((eM.out.ah ((ac.refl _).alloc _)).ah bC).le (by omega)) (bE de.out (((ac.refl _).alloc _).trans bC));have bn:=aa hrel;clear hrel db bC d0 d1 d2;go_wp2;exact⟨bn.out,by simp[intOf];omega⟩
  have z:¬(0:Int)<(i:Int):=by omega
  have z0:i=0:=by omega
  subst z0;cases ns
  ·obtain⟨A9,c9,rfl,_,_,_⟩:=aJ HO.out;obtain⟨fK,bl,rfl,_,_,_⟩:=aJ HP.out
   by_cases hop:op.length=0
   ·have y1:¬(0:Int)<=(op.length:Int)-1:=by omega
    have EC:op.length<=0:=by omega
    clear hop;go_wp2_with fail;refine wp_loop_rounds 1 ?_;rw[rounds_succ];go_wp2;go_ret;exact⟨_,f,op,c,rfl,HO.out,iM.out,by omega,by omega,HG.out.le (by omega),HK.out⟩
   have y1:(0:Int)<=(op.length:Int)-1:=by omega
   go_wp2_with fail;refine wp_loop_rounds 1 ?_;rw[rounds_succ];go_wp2;go_ret;exact⟨_,f,op,c,rfl,HO.out,iM.out,by omega,by omega,HG.out.le (by omega),HK.out⟩
  obtain⟨fK,bl,rfl,h10c,h10m,_⟩:=aJ HP.out;have hst:=iM.out;rw[<-List.take_length (l:=op)]at hst;have HST:=aa hst;clear hst;go_wp2_with fail;go_loopw [9,15] (λs9 oy wr=>Pn w B g P n op (VF fK op.length bl) c s9 oy wr) (λ_ oy _=>(intOf oy+1).toNat)
  case atStart=>exact⟨op.length,_,f,rfl,rfl,Nat.le_refl _,HO.out,HP.out,HD.out,HST.out,by omega,by omega,HG.out.le (by omega),HK.out⟩
  case round=>
   clear HO HP HD HG HK HST iM;obtain⟨j,zz,f,rfl,hzz,hj,hown,hownp,ij,lp,hfl2,hft2,hG,hk⟩:=hrel;have HG:=aa hG;have HK:=aa hk;have HO:=aa hown;have HP:=aa hownp;have iM:=aa lp;obtain⟨A9,c9,rfl,_,_,_⟩:=aJ HO.out
   by_cases K1:j=0
   ·subst K1;obtain rfl:zz=-1:=by omega
    have zH:=aa (show St.fH true f [] c from lp);clear hG hk hown hownp ij lp hzz iM;go_wp2;go_ret;exact⟨_,f,c,rfl,HO.out,zH.out,by omega,by omega,by omega,HG.out,HK.out⟩
   obtain⟨q,rfl⟩:∃q,j=q+1:=⟨j-1,by omega⟩;obtain rfl:zz=(q:Int):=by omega
   have hq2:q<op.length:=by omega
   obtain⟨dr,rfl,hb10B,iS,hc10⟩:=dY hownp (by omega);have KX:=jT op q hq2;have p1:=hc10 _ _ KX.2.1;have p2:=hc10 _ _ KX.2.2;have hsm:=(lp.small op[q] (List.mem_take_iff_getElem.2 ⟨q,by omega,rfl⟩)).1;have zH:=aa (I0 lp hq2)
   have zu:(VF A9 f.length c9).ownBlock≠some dr:=by
    rcases ij with h|h
    ·rw[h];exact λe=>by cases e
    exact h
   generalize op[q]=y at p1 p2 hsm zH;obtain⟨yk,yt,yi⟩:=y;simp only at p1 p2 hsm zH;have hnl:=St.Bu yt;have hy0:(0:Int)<=(q:Int):=by omega
   have hy1:(q:Int)<(op.length:Int):=by omega
   haveI:af dr wr:=af.of iS;have e0:=p1;have e1:=p2;clear hG hk hown hownp ij lp hzz KX hc10 iM K1;go_wp2_with fail;refine wp_region_any (by kernel_rfl) ?_
   try (change wpAny _ _ _ _ _ _ _ (World.drew _))
   refine dm (l':=#[bF,bF,bF,bF,bF,bF,bF,bF,bF,bF,bF,bF,bF,bF,bF,bF]) (by kernel_rfl) ?_;refine wpAny_take (i:=0) (oi:=⟨some 125,_,_,_,_,_⟩) (v:=?_) rfl (by kernel_rfl) (by kernel_rfl) (by kernel_rfl) (λ_ _ _ h=>h) (Or.inl ⟨by rfl,?_⟩) ?_;rotate_left 1
   ·(intro W9;go_simp;try with_reducible rfl)
   conv=>arg 7;simp only[Act.put,ap,ak,aq]
   refine dm (l':=#[bT,bF,bF,bF,bF,bF,bF,bF,bF,bF,bF,bF,bF,bF,bF,bF]) (by kernel_rfl) ?_;refine wpAny_take (i:=1) (oi:=⟨some 126,_,_,_,_,_⟩) (v:=?_) rfl (by kernel_rfl) (by kernel_rfl) (by kernel_rfl) (λ_ _ _ h=>h) (Or.inl ⟨by rfl,?_⟩) ?_;rotate_left 1
   ·(intro W9;go_simp;try with_reducible rfl)
   conv=>arg 7;simp only[Act.put,ap,ak,aq]
   refine dm (l':=#[bT,bT,bF,bF,bF,bF,bF,bF,bF,bF,bF,bF,bF,bF,bF,bF]) (by kernel_rfl) ?_;refine wpAny_take (i:=2) (oi:=⟨some 127,_,_,_,_,_⟩) (v:=?_) rfl (by kernel_rfl) (by kernel_rfl) (by kernel_rfl) (λ_ _ _ h=>h) (Or.inl ⟨by rfl,?_⟩) ?_;rotate_left 1
   ·(intro W9;go_simp;try with_reducible rfl)
   conv=>arg 7;simp only[Act.put,ap,ak,aq]
   refine dm (l':=#[bT,bT,bT,bF,bF,bF,bF,bF,bF,bF,bF,bF,bF,bF,bF,bF]) (by kernel_rfl) ?_;refine wpAny_take (i:=3) (oi:=⟨some 128,_,_,_,_,_⟩) (v:=?_) rfl (by kernel_rfl) (by kernel_rfl) (by kernel_rfl) (λ_ _ _ h=>h) (Or.inl ⟨by rfl,?_⟩) ?_;rotate_left 1
   ·(intro W9;go_simp;try with_reducible rfl)
   conv=>arg 7;simp only[Act.put,ap,ak,aq]
   refine dm (l':=#[bT,bT,bT,bT,bF,bF,bF,bF,bF,bF,bF,bF,bF,bF,bF,bF]) (by kernel_rfl) ?_;refine wpAny_take (i:=4) (oi:=⟨some 129,_,_,_,_,_⟩) (v:=?_) rfl (by kernel_rfl) (by kernel_rfl) (by kernel_rfl) (λ_ _ _ h=>h) (Or.inl ⟨by rfl,?_⟩) ?_;rotate_left 1
   ·(intro W9;go_simp;try with_reducible rfl)
   conv=>arg 7;simp only[Act.put,ap,ak,aq]
   refine dm (l':=#[bT,bT,bT,bT,bT,bF,bF,bF,bF,bF,bF,bF,bF,bF,bF,bF]) (by kernel_rfl) ?_;refine wpAny_take (i:=7) (oi:=⟨some 132,_,_,_,_,_⟩) (v:=?_) rfl (by kernel_rfl) (by kernel_rfl) (by kernel_rfl) (λ_ _ _ h=>h) (Or.inl ⟨by rfl,?_⟩) ?_;rotate_left 1
   ·(intro W9;go_simp;try with_reducible rfl)
   conv=>arg 7;simp only[Act.put,ap,ak,aq]
   refine dm (l':=#[bT,bT,bT,bT,bT,bF,bF,bT,bF,bF,bF,bF,bF,bF,bF,bF]) (by kernel_rfl) ?_;refine wpAny_take (i:=8) (oi:=⟨some 133,_,_,_,_,_⟩) (v:=?_) rfl (by kernel_rfl) (by kernel_rfl) (by kernel_rfl) (λ_ _ _ h=>h) (Or.inl ⟨by rfl,?_⟩) ?_;rotate_left 1
   ·(intro W9;go_simp;try with_reducible rfl)
   conv=>arg 7;simp only[Act.put,ap,ak,aq]
   refine dm (l':=#[bT,bT,bT,bT,bT,bF,bF,bT,bT,bF,bF,bF,bF,bF,bF,bF]) (by kernel_rfl) ?_;refine wpAny_take (i:=9) (oi:=⟨some 134,_,_,_,_,_⟩) (v:=?_) rfl (by kernel_rfl) (by kernel_rfl) (by kernel_rfl) (λ_ _ _ h=>h) (Or.inl ⟨by rfl,?_⟩) ?_;rotate_left 1
   ·(intro W9;go_simp;try with_reducible rfl)
   conv=>arg 7;simp only[Act.put,ap,ak,aq]
   refine dm (l':=#[bT,bT,bT,bT,bT,bF,bF,bT,bT,bT,bF,bF,bF,bF,bF,bF]) (by kernel_rfl) ?_;refine wpAny_take (i:=10) (oi:=⟨some 135,_,_,_,_,_⟩) (v:=?_) rfl (by kernel_rfl) (by kernel_rfl) (by kernel_rfl) (λ_ _ _ h=>h) (Or.inl ⟨by rfl,?_⟩) ?_;rotate_left 1
   ·(intro W9;go_simp;try with_reducible rfl)
   conv=>arg 7;simp only[Act.put,ap,ak,aq]
   refine dm (l':=#[bT,bT,bT,bT,bT,bF,bF,bT,bT,bT,bT,bF,bF,bF,bF,bF]) (by kernel_rfl) ?_;refine wpAny_of_held (S:=λW=>W.cell? ⟨dr,q*3+1,none⟩=some (VE ⟨yt.toArray⟩)/\W.cell? ⟨dr,q*3+2,none⟩=some (VD VJ yi)) _ _ _ _ ?_;refine wpAnyH_take (i:=5) (oi:=⟨some 130,_,_,_,_,_⟩) (v:=?_) rfl (by kernel_rfl) (by kernel_rfl) (by kernel_rfl) (λ_ _ _ h=>h) (Or.inl ⟨by rfl,?_⟩) ?_ ?_;rotate_left 1
   ·(intro W9 az;have dh:W9.cell? ⟨dr,q*3+1,none⟩=some (VE ⟨yt.toArray⟩):=az.1;have di:W9.cell? ⟨dr,q*3+2,none⟩=some (VD VJ yi):=az.2;clear az;go_simp;try with_reducible rfl)
   ·first|assumption|exact⟨e0,e1⟩|(refine⟨?_,?_⟩<;>(go_simp;done))
   conv=>arg 8;simp only[Act.put,ap,ak,aq]
   refine jN (l':=#[bT,bT,bT,bT,bT,bT,bF,bT,bT,bT,bT,bF,bF,bF,bF,bF]) (by kernel_rfl) ?_;refine wpAnyH_take (i:=11) (oi:=⟨some 136,_,_,_,_,_⟩) (v:=?_) rfl (by kernel_rfl) (by kernel_rfl) (by kernel_rfl) (λ_ _ _ h=>h) (Or.inl ⟨by rfl,?_⟩) ?_ ?_;rotate_left 1
   ·(intro W9 az;have dh:W9.cell? ⟨dr,q*3+1,none⟩=some (VE ⟨yt.toArray⟩):=az.1;have di:W9.cell? ⟨dr,q*3+2,none⟩=some (VD VJ yi):=az.2;clear az;go_simp;try with_reducible rfl)
   ·first|assumption|exact⟨e0,e1⟩|(refine⟨?_,?_⟩<;>(go_simp;done))
   conv=>arg 8;simp only[Act.put,ap,ak,aq]
   refine jN (l':=#[bT,bT,bT,bT,bT,bT,bF,bT,bT,bT,bT,bT,bF,bF,bF,bF]) (by kernel_rfl) ?_;refine wpAnyH_ready (rs:=[6]) (by kernel_rfl) (by simp) ?_;refine AllReadyH.cons (o:=⟨some 131,_,_,_,_,_⟩) rfl (λK hK=>?_) AllReadyH.nil;refine tW (o:=⟨some 131,_,_,_,_,_⟩) rfl 105 #[VE ⟨yt.toArray⟩] _ (jZ yt _ (by omega)) ?_ ?_
   ·go_simp
   rintro e W2 ⟨rfl,hu⟩;refine⟨_,rfl,?_⟩;have hu2:ac wr W2:=(ac.refl wr).drew.trans hu;have e0:=(hu2.cell (p:=⟨dr,q*3+1,none⟩) iS).trans p1;have e1:=(hu2.cell (p:=⟨dr,q*3+2,none⟩) iS).trans p2;haveI:af dr W2:=af.of (Nat.lt_of_lt_of_le iS hu2.size);have aW:=aa hu2;clear hu hu2;refine hK _ _ ⟨?_,?_⟩
   ·clear hK K;first|assumption|exact⟨e0,e1⟩|(refine⟨?_,?_⟩<;>(go_simp;done))
   clear hK K
   conv=>arg 8;simp only[Act.put,ap,ak,aq]
   refine jN (l':=#[bT,bT,bT,bT,bT,bT,bT,bT,bT,bT,bT,bT,bF,bF,bF,bF]) (by kernel_rfl) ?_;refine wpAnyH_take (i:=12) (oi:=⟨some 137,_,_,_,_,_⟩) (v:=?_) rfl (by kernel_rfl) (by kernel_rfl) (by kernel_rfl) (λ_ _ _ h=>h) (Or.inl ⟨by rfl,?_⟩) ?_ ?_;rotate_left 1
   ·(intro W9 az;have dh:W9.cell? ⟨dr,q*3+1,none⟩=some (VE ⟨yt.toArray⟩):=az.1;have di:W9.cell? ⟨dr,q*3+2,none⟩=some (VD VJ yi):=az.2;clear az;go_simp;try with_reducible rfl)
   ·first|assumption|exact⟨e0,e1⟩|(refine⟨?_,?_⟩<;>(go_simp;done))
   conv=>arg 8;simp only[Act.put,ap,ak,aq]
   refine jN (l':=#[bT,bT,bT,bT,bT,bT,bT,bT,bT,bT,bT,bT,bT,bF,bF,bF]) (by kernel_rfl) ?_;refine wpAnyH_ready (rs:=[13]) (by kernel_rfl) (by simp) ?_;refine AllReadyH.cons (o:=⟨some 138,_,_,_,_,_⟩) rfl (λK hK=>?_) AllReadyH.nil;go_simp;have e0:(W2.alloc (VK #[VD VJ 3,VE ⟨(St.nameOf yt).toArray⟩,VD VJ yi] 36)).cell? ⟨dr,q*3+1,none⟩=some (VE ⟨yt.toArray⟩):=((aW.out.alloc _).cell (p:=⟨dr,q*3+1,none⟩) iS).trans p1;have e1:(W2.alloc (VK #[VD VJ 3,VE ⟨(St.nameOf yt).toArray⟩,VD VJ yi] 36)).cell? ⟨dr,q*3+2,none⟩=some (VD VJ yi):=((aW.out.alloc _).cell (p:=⟨dr,q*3+2,none⟩) iS).trans p2;refine hK _ _ ⟨?_,?_⟩
   ·clear hK K;first|assumption|exact⟨e0,e1⟩|(refine⟨?_,?_⟩<;>(go_simp;done))
   clear hK K
   conv=>arg 8;simp only[Act.put,ap,ak,aq]
   refine jN (l':=#[bT,bT,bT,bT,bT,bT,bT,bT,bT,bT,bT,bT,bT,bT,bF,bF]) (by kernel_rfl) ?_;refine wpAnyH_ready (rs:=[14]) (by kernel_rfl) (by simp) ?_;refine AllReadyH.cons (o:=⟨some 139,_,_,_,_,_⟩) rfl (λK hK=>?_) AllReadyH.nil;refine sS (o:=⟨some 139,_,_,_,_,_⟩) rfl _ _ rfl w.1.size (VF A9 f.length c9) f.length f rfl (aA (aW.out.alloc _) HO.out) ⟨W2.1.size,0,none⟩ 1 1 [(3,St.nameOf yt,yi)] rfl (bY _ _ _ _ _ (by simp) (by simp) (by simp) (by simp)) rfl (by omega) (by have:=HK.out.size;have:=aW.out.size;simp;omega) ?_;intro v' w6 tN vE hfr;have e0:=(dc vE (p:=⟨dr,q*3+1,none⟩) (by have:=aW.out.size;simp;omega) (λe=>zu e.symm)).trans (((aW.out.alloc _).cell (p:=⟨dr,q*3+1,none⟩) iS).trans p1);have e1:=(dc vE (p:=⟨dr,q*3+2,none⟩) (by have:=aW.out.size;simp;omega) (λe=>zu e.symm)).trans (((aW.out.alloc _).cell (p:=⟨dr,q*3+2,none⟩) iS).trans p2);have hrow:∀x,(VF A9 f.length c9).ownBlock=some x->w.1.size<=x:=λx hx=>ax HO.out x hx
   have CN:=aa tN;have lK:=aa ((aA (aW.out.alloc _) HP.out).kept vE (.inr (λe=>zu e.symm)));have pC:=aa ((HG.out.ah (aW.out.alloc _)).gb vE (λx e=>Nat.le_trans hB (hrow x e)));have u7:=aa (aK (bE HK.out (aW.out.alloc _)) vE (λx e=>.inr (hrow x e)))
   have PU:v'.ownBlock=none\/v'.ownBlock≠some dr:=by
    rcases hfr with h|h
    ·rw[h];exact .inr zu
    cases hv:v'.ownBlock with
    | none=>exact .inl rfl
    | some x=>exact .inr (λe=>by have u1:=h x hv;have u2:=aW.out.size;simp at u1 e;omega)
   clear tN vE hfr hrow HO HP HG HK;refine hK _ _ ⟨?_,?_⟩
   ·clear hK K;first|assumption|exact⟨e0,e1⟩|(refine⟨?_,?_⟩<;>(go_simp;done))
   clear hK K
   conv=>arg 8;simp only[Act.put,ap,ak,aq]
   refine jN (l':=#[bT,bT,bT,bT,bT,bT,bT,bT,bT,bT,bT,bT,bT,bT,bT,bF]) (by kernel_rfl) ?_;refine wpAnyH_take (i:=15) (oi:=⟨some 9,_,_,_,_,_⟩) (v:=?_) rfl (by kernel_rfl) (by kernel_rfl) (by kernel_rfl) (λ_ _ _ h=>h) (Or.inl ⟨by rfl,?_⟩) ?_ ?_;rotate_left 1
   ·(intro W9 az;have dh:W9.cell? ⟨dr,q*3+1,none⟩=some (VE ⟨yt.toArray⟩):=az.1;have di:W9.cell? ⟨dr,q*3+2,none⟩=some (VD VJ yi):=az.2;clear az;go_simp;try with_reducible rfl)
   ·first|assumption|exact⟨e0,e1⟩|(refine⟨?_,?_⟩<;>(go_simp;done))
   conv=>arg 8;simp only[Act.put,ap,ak,aq]
   refine jN (l':=#[bT,bT,bT,bT,bT,bT,bT,bT,bT,bT,bT,bT,bT,bT,bT,bT]) (by kernel_rfl) ?_;refine wpAnyH_done (by kernel_rfl) ?_ _;go_wp2;exact⟨⟨q,_,f++[(3,St.nameOf yt,yi)],rfl,rfl,by omega,by simpa using CN.out,lK.out,PU,zH.out,by simp;omega,by rw[ci];show aP f+(St.nameOf yt).length+5*q<=_;omega,pC.out,u7.out⟩,by first|(simp[intOf];done)|(simp[intOf];omega)⟩
theorem xV(B g P n:Nat)(w:VO)(hG:bm w B g P)(hP:P<=100000)(hn:n<=100) :
  Calls Tryz.prog 66 #[VH (some ⟨g,0,none⟩),VD VJ n,VG true,VG true] w (zC w B g P n):=xW true B g P n w hG hP hn
theorem Gq(B g P n:Nat)(w:VO)(hG:bm w B g P)(hP:P<=100000)(hn:n<=100) :
  Calls Tryz.prog 66 #[VH (some ⟨g,0,none⟩),VD VJ n,VG true,VG false] w (zD w B g P n false):=xW false B g P n w hG hP hn
end
