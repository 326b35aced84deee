/- The contract of the maker Fragment without tags: joined items of texts and placeholders. -/
import Derived.Test.YthoemdibbldndaaGreatDoorGF
import Derived.LoopN
import Derived.Test.YthoemdibbldndaaGreatDoorRdsA
import Derived.Test.YthoemdibbldndaaGreatDoorGH
import Derived.BigQuiet
import Derived.IntWalk
import Derived.Deep.RegionHeld3
import Derived.OrdersHeld
set_option linter.all false
set_option maxHeartbeats 0
set_option maxRecDepth 20000
open Go.Value renaming int->Yp,string->Yq,slice->Yr,bool->Ys,pointer->Yt
open Go.IntKind renaming i64->Yv
open Go.Obj renaming cells->Yw
open Go.Ending renaming returned->Yx
open Go renaming World->YA
namespace Go.Proofs.YthoemdibbldndaaGreatDoor
open Go.RowKit
section
def G4(x:St.It):Prop:=x.2.2=0/\(x.1=1\/(x.1=5/\St.aF x.2.1=true))
def uY(f:List St.It):Prop:=St.Nm f/\∀x∈f,G4 x
theorem ME:uY []:=⟨St.nQ,λ_ h=>by cases h⟩
theorem MD{f:List St.It}{x:St.It}(h:uY f)(hx:G4 x):uY (St.aK f x):=by
 refine⟨St.eJ h.1 x,λy hy=>?_⟩;rcases St.cL f with rfl|⟨a,b,rfl⟩
 ·rw[St.dU]at hy
  split at hy
  ·split at hy
   ·cases hy
   simp at hy;subst hy;exact⟨rfl,.inl rfl⟩
  simp at hy;subst hy;exact hx
 rw[St.cN]at hy
 split at hy
 ·split at hy
  ·exact h.2 y hy
  split at hy
  ·rcases List.mem_append.1 hy with hy|hy
   ·exact h.2 y (by simp[hy])
   simp at hy;subst hy;exact⟨rfl,.inl rfl⟩
  rcases List.mem_append.1 hy with hy|hy
  ·exact h.2 y hy
  simp at hy;subst hy;exact⟨rfl,.inl rfl⟩
 rcases List.mem_append.1 hy with hy|hy
 ·exact h.2 y hy
 simp at hy;subst hy;exact hx
def N1(w:YA)(B g P n:Nat)(s9 dy s12:Value)(wr:YA):Prop:=∃(i k:Nat) (f:List St.It),dy=Yr none 0 0/\s12=Yp Yv i/\k+i<=n/\wr.ownsRow w.1.size 36 3 s9 f.length (ak f)/\uY f/\f.length<=k/\aY f<=18*k/\bp wr B g (P+1+9*k)/\w.grownBy wr (some g)
def OT(w:YA)(B g P n:Nat)(e:Ending)(w':YA):Prop:=∃(v:Value) (f:List St.It),e=Yx v/\w'.ownsRow w.1.size 36 3 v f.length (ak f)/\uY f/\f.length<=n/\aY f<=18*n/\bp w' B g (P+1+9*n)/\w.grownBy w' (some g)
theorem Dl(B g P n:Nat)(w:YA)(hG:bp w B g P)(hP:P<=100000)(hn:n<=100) :
  Calls Tryz.prog 66 #[Yt (some ⟨g,0,none⟩),Yp Yv n,Ys false,Ys true] w (OT w B g P n):=by
 have HG:=aa hG;obtain⟨kg,hB⟩:=hG.lt;clear hG;go_enter Tryz.func66,Tryz.ntmps66;go_wp2_with fail;refine(bW B g P ((n:Int)+1) _ HG.out (by omega) (by omega) (by omega)).mono ?_;rintro e w2 ⟨r,rfl,hr,hG2,hk⟩;have HG2:=aa hG2;have gi:=aa hk;clear hG2 hk HG;go_wp2_with fail;go_loopw [9,10,12] (λs9 dy s12 wr=>N1 w B g P n s9 dy s12 wr) (λ_ _ s12 _=>(intOf s12).toNat)
 case atStart=>exact⟨r,0,[],rfl,rfl,by omega,World.ownsRow_nil _ _ _ _,ME,by simp,by simp[aY],HG2.out,gi.out⟩
 case round=>
  clear HG2 gi hr;obtain⟨i,k,f,rfl,rfl,hki,hown,fU,hfl,hft,hG,hk⟩:=hrel;have HG:=aa hG;have HK:=aa hk;have HO:=aa hown;have pP:=aa fU;clear hG hk hown fU
  by_cases hi:0<i
  ·have z:(0:Int)<(i:Int):=by omega
   obtain⟨wo,rfl⟩:∃wo:YA,wo=wr:=⟨_,rfl⟩;go_wp2_with fail;refine(wA B g _ 3 _ HG.out (by omega) (by omega)).mono ?_;rintro e w3 ⟨t,rfl,hts,hG3,hk3⟩;have iG:=aa hG3;have fL:=aa (aN HK.out hk3 (λ_ e=>.inl e));have ft:=aa (eB HO.out hk3 (by omega));clear hG3 hk3 HG HK HO;have RU:=fL.out.size;obtain⟨A9,c9,rfl,_,_,hA9⟩:=aW ft.out;have gf:∀x,(Yr A9 f.length c9).ownBlock=some x->x<w3.1.size:=λx hx=>(ft.out.lt x hx).2
   have kZ:∀(W:YA) (b:Nat) (x:St.It),x.2.2=0->aJ W A9 f->aJ W (some ⟨b,0,none⟩) [x]->aY (f++[x])<=4611686018427387904->Calls Tryz.prog 44 #[Yr A9 f.length c9,Yr (some ⟨b,0,none⟩) 1 1] W λe w'=>∃v,e=Yx v/\w'.ownsRow W.1.size 36 3 v (St.aK f x).length (ak (St.aK f x))/\ac W w':=by
    intro W b x hx h h' ht;have:=l5 A9 f.length c9 f (some ⟨b,0,none⟩) 1 1 [x] W rfl rfl (λe=>by have:=hA9 e;omega) (λe=>by cases e) h h' (by omega) ht
    rw[St.ek,pP.out.1]at this;exact this
   have eg:=aa kZ;clear kZ
   have fin:∀(x:St.It) (v7:Value) (w7:YA),G4 x->x.2.1.length<=18->(x.1=1\/x.1=5)->w7.ownsRow w.1.size 36 3 v7 (St.aK f x).length (ak (St.aK f x))->bp w7 B g (P+1+9*(k+1))->w.grownBy w7 (some g)->N1 w B g P n v7 (Yr none 0 0) (Yp Yv ((i:Int)-1)) w7:=by
    intro x v7 w7 hg hx _ ho hG hk;have h1:=(St.gN f x).1;have h2:=ik f x;exact⟨i-1,k+1,St.aK f x,rfl,congrArg (Yp Yv) (by omega),by omega,ho,MD pP.out hg,by omega,by omega,hG,hk⟩
   have il:=aa fin;clear fin;have Gc:g<w3.1.size:=by omega
   go_wp2_with fail;refine(bW B g _ 8 _ (iG.out.ai ((ac.refl _).alloc _)) (by omega) (by omega) (by omega)).mono ?_;rintro e w4 ⟨r,rfl,hr,hG4,hk4⟩;have eS:=aa hG4;have dm:=aa (aN (bO fL.out ((ac.refl _).alloc (Yw #[Yp Yv 1,Yq t,Yp Yv 0] 36))) hk4 (λ_ e=>.inl e));have iH:=aa (eB (ft.out.alloc (Yw #[Yp Yv 1,Yq t,Yp Yv 0] 36)) hk4 (by omega));have hb4:w4.1[w3.1.size]?=some (Yw #[Yp Yv 1,Yq t,Yp Yv 0] 36 (0,0)):=(hk4.block w3.1.size (by simp) (by simp;omega)).trans (heap_alloc_new w3 _);have nW:w3.1.size<w4.1.size:=ae hb4;have d0:w4.cell? ⟨w3.1.size,0,none⟩=some (Yp Yv 1):=aj hb4 0;have d1:w4.cell? ⟨w3.1.size,1,none⟩=some (Yq t):=aj hb4 1;have d2:w4.cell? ⟨w3.1.size,2,none⟩=some (Yp Yv 0):=aj hb4 2;haveI:af w3.1.size w4:=af.of nW;have pn:r<8:=by omega
   clear hG4 hk4 iG fL ft hr;rcases(show r=0\/r=1\/r=2\/r=3\/r=4\/r=5\/r=6\/r=7 by omega)with h|h|h|h|h|h|h|h
   ·subst h;clear pn d0 d1 d2;go_wp2_with fail;refine(bW B g _ 3 _ (eS.out.ai ((ac.refl _).alloc (Yw #[Yq ⟨#[110]⟩,Yq ⟨#[110,97,109,101]⟩,Yq ⟨#[120,49]⟩] 9))) (by omega) (by omega) (by omega)).mono ?_;rintro e w5 ⟨q,rfl,hq,gl,hk5⟩
    obtain⟨u,hu,jl,hun⟩:∃u:ByteArray,(#[Yq ⟨#[110]⟩,Yq ⟨#[110,97,109,101]⟩,Yq ⟨#[120,49]⟩]:Array Value)[q]?=some (Yq u)/\u.size<=4/\St.aF u.1.1=true:=by
     rcases(show q=0\/q=1\/q=2 by omega)with h|h|h<;>subst h<;>exact⟨_,rfl,by decide,by decide⟩
    have hcell:=gR w4 w5 _ _ B g hk5 kg (by omega) q _ hu;have jS:=aa gl;have oJ:=aa (aN (bO dm.out ((ac.refl _).alloc (Yw #[Yq ⟨#[110]⟩,Yq ⟨#[110,97,109,101]⟩,Yq ⟨#[120,49]⟩] 9))) hk5 (λ_ e=>.inl e));have fA:=aa (eB (iH.out.alloc (Yw #[Yq ⟨#[110]⟩,Yq ⟨#[110,97,109,101]⟩,Yq ⟨#[120,49]⟩] 9)) hk5 (by omega));have cD:w5.1[w3.1.size]?=some (Yw #[Yp Yv 1,Yq t,Yp Yv 0] 36 (0,0)):=(hk5.block w3.1.size (by simp;omega) (by simp;omega)).trans ((((ac.refl w4).alloc _).below.block w3.1.size nW).trans hb4);have f0:w5.frozen? ⟨w3.1.size,0,none⟩=false:=bu cD 0;have f1:w5.frozen? ⟨w3.1.size,1,none⟩=false:=bu cD 1;have f2:w5.frozen? ⟨w3.1.size,2,none⟩=false:=bu cD 2;have g0:w5.cell? ⟨w3.1.size,0,none⟩=some (Yp Yv 1):=aj cD 0;have g1:w5.cell? ⟨w3.1.size,1,none⟩=some (Yq t):=aj cD 1;have g2:w5.cell? ⟨w3.1.size,2,none⟩=some (Yp Yv 0):=aj cD 2;haveI:af w3.1.size w5:=af.of (ae cD);haveI:af w4.1.size w5:=af.of (cS _ _ hcell);have ON:q<3:=by omega
    have hob:(Yr A9 f.length c9).ownBlock≠some w3.1.size:=λe=>by have:=gf _ e;omega
    have hkey:∀W,W=((w5.setCell ⟨w3.1.size,0,none⟩ (Yp Yv 5)).setCell ⟨w3.1.size,1,none⟩ (Yq u)).setCell ⟨w3.1.size,2,none⟩ (Yp Yv 0)->W.ownsRow w.1.size 36 3 (Yr A9 f.length c9) f.length (ak f)/\bp W B g (P+1+9*(k+1))/\w.grownBy W (some g):=by
     intro W hW;subst hW;refine⟨aC (aC (aC fA.out hob) hob) hob,?_,bU (bU (bU oJ.out _ _ (.inr (by show w.1.size<=w3.1.size;omega))) _ _ (.inr (by show w.1.size<=w3.1.size;omega))) _ _ (.inr (by show w.1.size<=w3.1.size;omega))⟩;have hBb:∀x,some w3.1.size=some x->B<=x:=λx e=>by cases e;omega
     exact(((jS.out.gb (cH w5 ⟨w3.1.size,0,none⟩ _) hBb).gb (cH _ ⟨w3.1.size,1,none⟩ _) hBb).gb (cH _ ⟨w3.1.size,2,none⟩ _) hBb).le (by omega)
    have HKEY:=aa (hkey _ rfl);have zD:=HKEY.out.2.1.lt.2;clear gl hk5 eS dm iH hkey hu hq;go_wp2_with fail;refine(eg.out _ _ (5,u.1.1,0) rfl ?_ ?_ ?_).mono ?_
    ·exact(a7 HKEY.out.1 rfl).ai ((ac.refl _).alloc _)
    ·rw[<-bo u];exact fE _ _ _ _ (by simp) (by rw[World.cell?_alloc_at _ _ _ _ (by simp)];rfl) (by rw[World.cell?_alloc_at _ _ _ _ (by simp)];rfl) (by rw[World.cell?_alloc_at _ _ _ _ (by simp)];rfl)
    ·rw[cA];simp;omega
    rintro e w7 ⟨v7,rfl,dk,bR⟩;have hrel:=il.out (5,u.1.1,0) v7 w7 ⟨rfl,.inr ⟨rfl,hun⟩⟩ (by simp;omega) (.inr rfl) (cT dk (by have:=HKEY.out.2.2.size;simp at this |-;omega)) ((HKEY.out.2.1.ai ((ac.refl _).alloc _)).ai bR) (bO HKEY.out.2.2 (((ac.refl _).alloc _).trans bR));have bw:=aa hrel;clear hrel dk bR hcell;go_wp2;exact⟨bw.out,by simp[intOf];omega⟩
   ·subst h;clear pn d0 d1 d2;go_wp2_with fail;refine(bW B g _ 3 _ (eS.out.ai ((ac.refl _).alloc (Yw #[Yq ⟨#[110]⟩,Yq ⟨#[110,97,109,101]⟩,Yq ⟨#[120,49]⟩] 9))) (by omega) (by omega) (by omega)).mono ?_;rintro e w5 ⟨q,rfl,hq,gl,hk5⟩
    obtain⟨u,hu,jl,hun⟩:∃u:ByteArray,(#[Yq ⟨#[110]⟩,Yq ⟨#[110,97,109,101]⟩,Yq ⟨#[120,49]⟩]:Array Value)[q]?=some (Yq u)/\u.size<=4/\St.aF u.1.1=true:=by
     rcases(show q=0\/q=1\/q=2 by omega)with h|h|h<;>subst h<;>exact⟨_,rfl,by decide,by decide⟩
    have hcell:=gR w4 w5 _ _ B g hk5 kg (by omega) q _ hu;have jS:=aa gl;have oJ:=aa (aN (bO dm.out ((ac.refl _).alloc (Yw #[Yq ⟨#[110]⟩,Yq ⟨#[110,97,109,101]⟩,Yq ⟨#[120,49]⟩] 9))) hk5 (λ_ e=>.inl e));have fA:=aa (eB (iH.out.alloc (Yw #[Yq ⟨#[110]⟩,Yq ⟨#[110,97,109,101]⟩,Yq ⟨#[120,49]⟩] 9)) hk5 (by omega));have cD:w5.1[w3.1.size]?=some (Yw #[Yp Yv 1,Yq t,Yp Yv 0] 36 (0,0)):=(hk5.block w3.1.size (by simp;omega) (by simp;omega)).trans ((((ac.refl w4).alloc _).below.block w3.1.size nW).trans hb4);have f0:w5.frozen? ⟨w3.1.size,0,none⟩=false:=bu cD 0;have f1:w5.frozen? ⟨w3.1.size,1,none⟩=false:=bu cD 1;have f2:w5.frozen? ⟨w3.1.size,2,none⟩=false:=bu cD 2;have g0:w5.cell? ⟨w3.1.size,0,none⟩=some (Yp Yv 1):=aj cD 0;have g1:w5.cell? ⟨w3.1.size,1,none⟩=some (Yq t):=aj cD 1;have g2:w5.cell? ⟨w3.1.size,2,none⟩=some (Yp Yv 0):=aj cD 2;haveI:af w3.1.size w5:=af.of (ae cD);haveI:af w4.1.size w5:=af.of (cS _ _ hcell);have ON:q<3:=by omega
    have hob:(Yr A9 f.length c9).ownBlock≠some w3.1.size:=λe=>by have:=gf _ e;omega
    have hkey:∀W,W=((w5.setCell ⟨w3.1.size,0,none⟩ (Yp Yv 5)).setCell ⟨w3.1.size,1,none⟩ (Yq u)).setCell ⟨w3.1.size,2,none⟩ (Yp Yv 0)->W.ownsRow w.1.size 36 3 (Yr A9 f.length c9) f.length (ak f)/\bp W B g (P+1+9*(k+1))/\w.grownBy W (some g):=by
     intro W hW;subst hW;refine⟨aC (aC (aC fA.out hob) hob) hob,?_,bU (bU (bU oJ.out _ _ (.inr (by show w.1.size<=w3.1.size;omega))) _ _ (.inr (by show w.1.size<=w3.1.size;omega))) _ _ (.inr (by show w.1.size<=w3.1.size;omega))⟩;have hBb:∀x,some w3.1.size=some x->B<=x:=λx e=>by cases e;omega
     exact(((jS.out.gb (cH w5 ⟨w3.1.size,0,none⟩ _) hBb).gb (cH _ ⟨w3.1.size,1,none⟩ _) hBb).gb (cH _ ⟨w3.1.size,2,none⟩ _) hBb).le (by omega)
    have HKEY:=aa (hkey _ rfl);have zD:=HKEY.out.2.1.lt.2;clear gl hk5 eS dm iH hkey hu hq;go_wp2_with fail;refine(eg.out _ _ (5,u.1.1,0) rfl ?_ ?_ ?_).mono ?_
    ·exact(a7 HKEY.out.1 rfl).ai ((ac.refl _).alloc _)
    ·rw[<-bo u];exact fE _ _ _ _ (by simp) (by rw[World.cell?_alloc_at _ _ _ _ (by simp)];rfl) (by rw[World.cell?_alloc_at _ _ _ _ (by simp)];rfl) (by rw[World.cell?_alloc_at _ _ _ _ (by simp)];rfl)
    ·rw[cA];simp;omega
    rintro e w7 ⟨v7,rfl,dk,bR⟩;have hrel:=il.out (5,u.1.1,0) v7 w7 ⟨rfl,.inr ⟨rfl,hun⟩⟩ (by simp;omega) (.inr rfl) (cT dk (by have:=HKEY.out.2.2.size;simp at this |-;omega)) ((HKEY.out.2.1.ai ((ac.refl _).alloc _)).ai bR) (bO HKEY.out.2.2 (((ac.refl _).alloc _).trans bR));have bw:=aa hrel;clear hrel dk bR hcell;go_wp2;exact⟨bw.out,by simp[intOf];omega⟩
   ·subst h;clear pn hb4;go_wp2_with fail;refine(eg.out _ _ (1,t.1.1,0) rfl ?_ ?_ ?_).mono ?_
    ·exact(a7 iH.out rfl).ai ((ac.refl _).alloc _)
    ·rw[<-bo t];exact fE _ _ _ _ (by simp) (by simp) (by simp) (by simp)
    ·rw[cA];simp;omega
    rintro e w7 ⟨v7,rfl,dk,bR⟩;have hrel:=il.out (1,t.1.1,0) v7 w7 ⟨rfl,.inl rfl⟩ (by simp;omega) (.inl rfl) (cT dk (by have:=dm.out.size;simp at this |-;omega)) (((eS.out.ai ((ac.refl _).alloc _)).ai bR).le (by omega)) (bO dm.out (((ac.refl _).alloc _).trans bR));have bw:=aa hrel;clear hrel dk bR d0 d1 d2;go_wp2;exact⟨bw.out,by simp[intOf];omega⟩
   ·subst h;clear pn hb4;go_wp2_with fail;refine(eg.out _ _ (1,t.1.1,0) rfl ?_ ?_ ?_).mono ?_
    ·exact(a7 iH.out rfl).ai ((ac.refl _).alloc _)
    ·rw[<-bo t];exact fE _ _ _ _ (by simp) (by simp) (by simp) (by simp)
    ·rw[cA];simp;omega
    rintro e w7 ⟨v7,rfl,dk,bR⟩;have hrel:=il.out (1,t.1.1,0) v7 w7 ⟨rfl,.inl rfl⟩ (by simp;omega) (.inl rfl) (cT dk (by have:=dm.out.size;simp at this |-;omega)) (((eS.out.ai ((ac.refl _).alloc _)).ai bR).le (by omega)) (bO dm.out (((ac.refl _).alloc _).trans bR));have bw:=aa hrel;clear hrel dk bR d0 d1 d2;go_wp2;exact⟨bw.out,by simp[intOf];omega⟩
   ·subst h;clear pn hb4;go_wp2_with fail;refine(eg.out _ _ (1,t.1.1,0) rfl ?_ ?_ ?_).mono ?_
    ·exact(a7 iH.out rfl).ai ((ac.refl _).alloc _)
    ·rw[<-bo t];exact fE _ _ _ _ (by simp) (by simp) (by simp) (by simp)
    ·rw[cA];simp;omega
    rintro e w7 ⟨v7,rfl,dk,bR⟩;have hrel:=il.out (1,t.1.1,0) v7 w7 ⟨rfl,.inl rfl⟩ (by simp;omega) (.inl rfl) (cT dk (by have:=dm.out.size;simp at this |-;omega)) (((eS.out.ai ((ac.refl _).alloc _)).ai bR).le (by omega)) (bO dm.out (((ac.refl _).alloc _).trans bR));have bw:=aa hrel;clear hrel dk bR d0 d1 d2;go_wp2;exact⟨bw.out,by simp[intOf];omega⟩
   ·subst h;clear pn hb4;go_wp2_with fail;refine(eg.out _ _ (1,t.1.1,0) rfl ?_ ?_ ?_).mono ?_
    ·exact(a7 iH.out rfl).ai ((ac.refl _).alloc _)
    ·rw[<-bo t];exact fE _ _ _ _ (by simp) (by simp) (by simp) (by simp)
    ·rw[cA];simp;omega
    rintro e w7 ⟨v7,rfl,dk,bR⟩;have hrel:=il.out (1,t.1.1,0) v7 w7 ⟨rfl,.inl rfl⟩ (by simp;omega) (.inl rfl) (cT dk (by have:=dm.out.size;simp at this |-;omega)) (((eS.out.ai ((ac.refl _).alloc _)).ai bR).le (by omega)) (bO dm.out (((ac.refl _).alloc _).trans bR));have bw:=aa hrel;clear hrel dk bR d0 d1 d2;go_wp2;exact⟨bw.out,by simp[intOf];omega⟩
   ·subst h;clear pn hb4;go_wp2_with fail;refine(eg.out _ _ (1,t.1.1,0) rfl ?_ ?_ ?_).mono ?_
    ·exact(a7 iH.out rfl).ai ((ac.refl _).alloc _)
    ·rw[<-bo t];exact fE _ _ _ _ (by simp) (by simp) (by simp) (by simp)
    ·rw[cA];simp;omega
    rintro e w7 ⟨v7,rfl,dk,bR⟩;have hrel:=il.out (1,t.1.1,0) v7 w7 ⟨rfl,.inl rfl⟩ (by simp;omega) (.inl rfl) (cT dk (by have:=dm.out.size;simp at this |-;omega)) (((eS.out.ai ((ac.refl _).alloc _)).ai bR).le (by omega)) (bO dm.out (((ac.refl _).alloc _).trans bR));have bw:=aa hrel;clear hrel dk bR d0 d1 d2;go_wp2;exact⟨bw.out,by simp[intOf];omega⟩
   subst h;clear pn hb4;go_wp2_with fail;refine(eg.out _ _ (1,t.1.1,0) rfl ?_ ?_ ?_).mono ?_
   ·exact(a7 iH.out rfl).ai ((ac.refl _).alloc _)
   ·rw[<-bo t];exact fE _ _ _ _ (by simp) (by simp) (by simp) (by simp)
   ·rw[cA];simp;omega
   rintro e w7 ⟨v7,rfl,dk,bR⟩;have hrel:=il.out (1,t.1.1,0) v7 w7 ⟨rfl,.inl rfl⟩ (by simp;omega) (.inl rfl) (cT dk (by have:=dm.out.size;simp at this |-;omega)) (((eS.out.ai ((ac.refl _).alloc _)).ai bR).le (by omega)) (bO dm.out (((ac.refl _).alloc _).trans bR));have bw:=aa hrel;clear hrel dk bR d0 d1 d2;go_wp2;exact⟨bw.out,by simp[intOf];omega⟩
  have z:¬(0:Int)<(i:Int):=by omega
  have z0:i=0:=by omega
  subst z0;go_wp2_with fail;refine wp_loop_rounds 1 ?_;rw[rounds_succ];go_wp2;go_ret;exact⟨_,f,rfl,HO.out,pP.out,by omega,by omega,HG.out.le (by omega),HK.out⟩
end
section
theorem dt{P:Program}{md:Region.Mode}{ops:Array Oper}{Q:Exit->Act->YA->Prop}{fuel:Nat}{l l':Array Bool}{a:Act}{w:YA}(h:l=l')(hw:wpAny P md ops Q fuel l' a w):wpAny P md ops Q fuel l a w:=by subst h;exact hw
theorem oj{ops:Array Oper}{o:Oper}{a:Act}{w:YA}{K:Act->YA->Prop}{Q:Exit->Act->YA->Prop}{E:Prop}(hgd:o.guard=none)(s x:Operand)
  (ho:o.op=.call { callee:=.builtin .append,args:=#[s,x],argTypes:=#[37,37] })
  (base:Nat) (v:Value) (n:Nat) (O:List St.It) (hs:a.eval s=v) (hown:w.ownsRow base 36 3 v n (ak O))
  (ad:Addr) (m c:Nat) (f:List St.It) (hx:a.eval x=Yr (some ad) m c) (hI:aJ w (some ad) f) (hm:f.length=m) (h63:n+m<=200000) (hbase:base<=w.1.size)
  (h:∀v' w',w'.ownsRow base 36 3 v' (n+m) (ak (O++f))->w.grownBy w' v.ownBlock->K (a.put o.dst v') w'):if Region.wanted o (yielded ops a.tmps)=true then Oper.wp Tryz.prog o a w K Q else E:=by
 obtain⟨i0,hi,hz0,hz1,hz2⟩:=info_parts dM;refine cM hgd s x 37 ho base 36 i0 (.agg #[.int .i64 0,.string ⟨#[]⟩,.int .i64 0]) 3 32 Tryz.underlying37 hi hz0 hz1 hz2 rfl (by decide) v n _ hs hown ad m c (ak f) hx (by rw[j8,hm]) hI.cells (qF f) (by unfold maxLen;omega) (by omega) hbase ?_;intro v' w' ho' hg _;exact h v' w' (by rw[mR];exact ho') hg
theorem IF{w:YA}{b off:Nat}{f:List St.It}(h:aJ w (some ⟨b,off,none⟩) f)(q:Nat):aJ w (some ⟨b,off+q*3,none⟩) (f.drop q):=by
 intro h0;simp at h0;obtain⟨b',off',e,hb,hc⟩:=h (by omega);obtain⟨rfl,rfl⟩:b=b'/\off=off':=by simp at e;exact e
 refine⟨b,off+q*3,rfl,hb,λj hj=>?_⟩;simp at hj;have:=hc (q+j) (by omega)
 simp only[List.getElem_drop];rw[show off+q*3+j*3=off+(q+j)*3 by omega];exact this
theorem vI{P:Program}{ops:Array Oper}{o:Oper}{a:Act}{w:YA}{K:Act->YA->Prop}{Q:Exit->Act->YA->Prop}{E:Prop}
  (hg:o.guard=none) (f:FuncId) (args:Array Value) (Po:Ending->YA->Prop) (hc:Calls P f args w Po)
  (hrun:(execOp a.eval o).run P w=.ok (.enter f args) w) (hK:∀e w',Po e w'->∃v,e=Yx v/\K (a.put o.dst v) w') :
  if Region.wanted o (yielded ops a.tmps)=true then Oper.wp P o a w K Q else E:=by
 have hw:Region.wanted o (yielded ops a.tmps)=true:=by simp[Region.wanted,hg]
 rw[if_pos hw];unfold Oper.wp;rw[hrun];refine hc.mono ?_;intro e w' hp;obtain⟨v,rfl,hk⟩:=hK e w' hp;exact hk
theorem QT{W':YA}{H e e' n n' b:Nat}{v9 v10:Value}{xs xs':List Value}{w2:YA}(h9:W'.ownsRow H e 3 v9 n xs)(h10:w2.ownsRow b e' 3 v10 n' xs')(hH:w2.1.size<=H):v9.ownBlock=none\/v9.ownBlock≠v10.ownBlock:=by
 cases h:v9.ownBlock with
 | none=>exact .inl rfl
 | some x=>
  refine .inr λe=>?_
  have h1:=aD h9 x h;have h2:=(h10.lt x e.symm).2;omega
def N2(w:YA)(B g P n:Nat)(ns:Bool)(s9 dy gB s12:Value)(wr:YA):Prop:=∃(i k c:Nat) (f op:List St.It),s12=Yp Yv i/\gB=Yp Yv c/\k+i<=n/\wr.ownsRow w.1.size 36 3 s9 f.length (ak f)/\wr.ownsRow w.1.size 36 3 dy op.length (ak op)/\(s9.ownBlock=none\/s9.ownBlock≠dy.ownBlock)/\St.eV ns f op c/\f.length<=k/\op.length<=k/\c<=k/\aY f<=18*k/\bp wr B g (P+1+9*k)/\w.grownBy wr (some g)
def L0(w:YA)(B g P n:Nat)(ns:Bool)(e:Ending)(w':YA):Prop:=∃(v:Value) (f op:List St.It) (c:Nat),e=Yx v/\w'.ownsRow w.1.size 36 3 v f.length (ak f)/\St.eV ns f op c/\f.length<=n/\aY f<=18*n/\bp w' B g (P+1+9*n)/\w.grownBy w' (some g)
end
section
theorem kz{P:Program}{md:Region.Mode}{ops:Array Oper}{Q:Exit->Act->YA->Prop}{S:YA->Prop}{fuel:Nat}{l l':Array Bool}{a:Act}{w:YA}(h:l=l')(hw:wpAnyH P md ops Q S fuel l' a w):wpAnyH P md ops Q S fuel l a w:=by subst h;exact hw
theorem uP{ops:Array Oper}{o:Oper}{a:Act}{w:YA}{K:Act->YA->Prop}{Q:Exit->Act->YA->Prop}{E:Prop}(hgd:o.guard=none)(s x:Operand)
  (ho:o.op=.call { callee:=.builtin .append,args:=#[s,x],argTypes:=#[37,37] })
  (base:Nat) (v:Value) (n:Nat) (O:List St.It) (hs:a.eval s=v) (hown:w.ownsRow base 36 3 v n (ak O))
  (ad:Addr) (m c:Nat) (f:List St.It) (hx:a.eval x=Yr (some ad) m c) (hI:aJ w (some ad) f) (hm:f.length=m) (h63:n+m<=200000) (hbase:base<=w.1.size)
  (h:∀v' w',w'.ownsRow base 36 3 v' (n+m) (ak (O++f))->w.grownBy w' v.ownBlock->pK w v v'->K (a.put o.dst v') w'):if Region.wanted o (yielded ops a.tmps)=true then Oper.wp Tryz.prog o a w K Q else E:=by
 obtain⟨i0,hi,hz0,hz1,hz2⟩:=info_parts dM;refine jA hgd s x 37 ho base 36 i0 (.agg #[.int .i64 0,.string ⟨#[]⟩,.int .i64 0]) 3 32 Tryz.underlying37 hi hz0 hz1 hz2 rfl (by decide) v n _ hs hown ad m c (ak f) hx (by rw[j8,hm]) hI.cells (qF f) (by unfold maxLen;omega) (by omega) hbase ?_;intro v' w' ho' hg hf;exact h v' w' (by rw[mR];exact ho') hg hf
theorem MB{f op:List St.It}{c q:Nat}(h:St.eV true f (op.take (q+1)) c)(hq:q<op.length):St.eV true (f++[(3,St.nameOf op[q].2.1,op[q].2.2)]) (op.take q) c:=by
 have hl:(op.take (q+1)).length=q+1:=by simp;omega
 have:=St.eV.closed (ns:=true) q (by omega) (λ_=>hl.symm) h
 rw[St.gO (show(3:Int)≠1 by decide)]at this;have e1:(op.take (q+1))[q]'(by omega)=op[q]:=by simp
 have e2:(op.take (q+1)).take q++(op.take (q+1)).drop (q+1)=op.take q:=by
  rw[List.drop_of_length_le (by omega),List.append_nil,List.take_take];congr 1;omega
 rw[e1,e2]at this;exact this
def SN(w:YA)(B g P n:Nat)(op:List St.It)(v10:Value)(c:Nat)(s9 pG:Value)(wr:YA):Prop:=∃(j:Nat) (z:Int) (f:List St.It),pG=Yp Yv z/\z=(j:Int)-1/\j<=op.length/\wr.ownsRow w.1.size 36 3 s9 f.length (ak f)/\wr.ownsRow w.1.size 36 3 v10 op.length (ak op)/\(s9.ownBlock=none\/s9.ownBlock≠v10.ownBlock)/\St.eV true f (op.take j) c/\f.length+j<=2*n/\aY f+5*j<=23*n/\bp wr B g (P+1+9*n)/\w.grownBy wr (some g)
def Cu(w:YA)(B g P n:Nat)(e:Ending)(w':YA):Prop:=∃(v:Value) (f:List St.It) (c:Nat),e=Yx v/\w'.ownsRow w.1.size 36 3 v f.length (ak f)/\St.eV true f [] c/\f.length<=2*n/\aY f<=23*n/\c<=n/\bp w' B g (P+1+9*n)/\w.grownBy w' (some g)
def LZ(w:YA)(B g P n:Nat)(ns:Bool)(e:Ending)(w':YA):Prop:=cond ns (Cu w B g P n e w') (L0 w B g P n false e w')
theorem Kd(ns:Bool)(B g P n:Nat)(w:YA)(hG:bp w B g P)(hP:P<=100000)(hn:n<=100) :
  Calls Tryz.prog 66 #[Yt (some ⟨g,0,none⟩),Yp Yv n,Ys true,Ys ns] w (LZ w B g P n ns):=by
 have HG:=aa hG;obtain⟨kg,hB⟩:=hG.lt;obtain⟨i0,hi,hz0,hz1,hz2⟩:=info_parts dM;clear hG;go_enter Tryz.func66,Tryz.ntmps66;go_wp2_with fail;refine(bW B g P ((n:Int)+1) _ HG.out (by omega) (by omega) (by omega)).mono ?_;rintro e w2 ⟨r,rfl,hr,hG2,hk⟩;have HG2:=aa hG2;have gi:=aa hk;clear hG2 hk HG;go_wp2_with fail;go_loopw [9,10,11,12] (λs9 dy gB s12 wr=>N2 w B g P n ns s9 dy gB s12 wr) (λ_ _ _ s12 _=>(intOf s12).toNat)
 case atStart=>exact⟨r,0,0,[],[],rfl,rfl,by omega,World.ownsRow_nil _ _ _ _,World.ownsRow_nil _ _ _ _,.inl rfl,.nil,by simp,by simp,by omega,by simp[aY],HG2.out,gi.out⟩
 case round=>
  clear HG2 gi hr;obtain⟨i,k,c,f,op,rfl,rfl,hki,hown,hownp,jL,mq,hfl,hol,jD,hft,hG,hk⟩:=hrel;have HG:=aa hG;have HK:=aa hk;have HO:=aa hown;have HP:=aa hownp;have HD:=aa jL;have jT:=aa mq;clear hG hk hown hownp jL mq
  by_cases XQ:0<i
  ·have z:(0:Int)<(i:Int):=by omega
   obtain⟨wo,rfl⟩:∃wo:YA,wo=wr:=⟨_,rfl⟩;go_wp2_with fail;refine(wA B g _ 3 _ HG.out (by omega) (by omega)).mono ?_;rintro e w3 ⟨t,rfl,hts,hG3,hk3⟩;have iG:=aa hG3;have fL:=aa (aN HK.out hk3 (λ_ e=>.inl e));have ft:=aa (eB HO.out hk3 (by omega));have Aq:=aa (eB HP.out hk3 (by omega));clear hG3 hk3 HG HK HO HP;have RU:=fL.out.size;obtain⟨A9,c9,rfl,_,_,hA9⟩:=aW ft.out;obtain⟨gJ,bK,rfl,h10c,h10m,hA10⟩:=aW Aq.out;have gf:∀x,(Yr A9 f.length c9).ownBlock=some x->x<w3.1.size:=λx hx=>(ft.out.lt x hx).2
   have xZ:∀x,(Yr gJ op.length bK).ownBlock=some x->x<w3.1.size:=λx hx=>(Aq.out.lt x hx).2
   have kZ:∀(W:YA) (b:Nat) (x:St.It),aJ W A9 f->aJ W (some ⟨b,0,none⟩) [x]->aY (f++[x])<=4611686018427387904->Calls Tryz.prog 44 #[Yr A9 f.length c9,Yr (some ⟨b,0,none⟩) 1 1] W λe w'=>∃v,e=Yx v/\w'.ownsRow W.1.size 36 3 v (St.aK f x).length (ak (St.aK f x))/\ac W w':=by
    intro W b x h h' ht;have:=l5 A9 f.length c9 f (some ⟨b,0,none⟩) 1 1 [x] W rfl rfl (λe=>by have:=hA9 e;omega) (λe=>by cases e) h h' (by omega) ht
    rw[St.ek,jT.out.nm]at this;exact this
   have eg:=aa kZ;clear kZ
   have fin:∀(x:St.It) (v7 v10:Value) (w6 w7:YA) (cJ:List St.It) (c':Nat) (gB:Value),gB=Yp Yv (c':Nat)->St.eV ns (St.aK f x) cJ c'->x.2.1.length<=18->cJ.length<=op.length+1->c'<=c+1->w7.ownsRow w6.1.size 36 3 v7 (St.aK f x).length (ak (St.aK f x))->w6.ownsRow w.1.size 36 3 v10 cJ.length (ak cJ)->ac w6 w7->w.1.size<=w6.1.size->bp w7 B g (P+1+9*(k+1))->w.grownBy w7 (some g)->N2 w B g P n ns v7 v10 gB (Yp Yv ((i:Int)-1)) w7:=by
    intro x v7 v10 w6 w7 cJ c' gB Vl hg hx ho' hc' dk ms bR hwz hG hk;have h1:=(St.gN f x).1;have h2:=ik f x;exact⟨i-1,k+1,c',St.aK f x,cJ,congrArg (Yp Yv) (by omega),Vl,by omega,cT dk hwz,aH bR ms,QT dk ms (Nat.le_refl _),hg,by omega,by omega,by omega,by omega,hG,hk⟩
   have il:=aa fin;clear fin;have Gc:g<w3.1.size:=by omega
   go_wp2_with fail;refine(bW B g _ 8 _ (iG.out.ai ((ac.refl _).alloc _)) (by omega) (by omega) (by omega)).mono ?_;rintro e w4 ⟨r,rfl,hr,hG4,hk4⟩;have eS:=aa hG4;have dm:=aa (aN (bO fL.out ((ac.refl _).alloc (Yw #[Yp Yv 1,Yq t,Yp Yv 0] 36))) hk4 (λ_ e=>.inl e));have iH:=aa (eB (ft.out.alloc (Yw #[Yp Yv 1,Yq t,Yp Yv 0] 36)) hk4 (by omega));have qV:=aa (eB (Aq.out.alloc (Yw #[Yp Yv 1,Yq t,Yp Yv 0] 36)) hk4 (by omega));have hb4:w4.1[w3.1.size]?=some (Yw #[Yp Yv 1,Yq t,Yp Yv 0] 36 (0,0)):=(hk4.block w3.1.size (by simp) (by simp;omega)).trans (heap_alloc_new w3 _);have nW:w3.1.size<w4.1.size:=ae hb4;have d0:w4.cell? ⟨w3.1.size,0,none⟩=some (Yp Yv 1):=aj hb4 0;have d1:w4.cell? ⟨w3.1.size,1,none⟩=some (Yq t):=aj hb4 1;have d2:w4.cell? ⟨w3.1.size,2,none⟩=some (Yp Yv 0):=aj hb4 2;haveI:af w3.1.size w4:=af.of nW;have pn:r<8:=by omega
   clear hG4 hk4 iG fL ft Aq hr;rcases(show(r=0\/r=1)\/r=2\/(r=3\/r=4)\/(r=5\/r=6)\/r=7 by omega)with h|h|h|h|h
   ·rcases h with h|h
    all_goals
     subst h;clear pn d0 d1 d2;go_wp2_with fail;refine(bW B g _ 3 _ (eS.out.ai ((ac.refl _).alloc (Yw #[Yq ⟨#[110]⟩,Yq ⟨#[110,97,109,101]⟩,Yq ⟨#[120,49]⟩] 9))) (by omega) (by omega) (by omega)).mono ?_;rintro e w5 ⟨q,rfl,hq,gl,hk5⟩
     obtain⟨u,hu,jl,hun⟩:∃u:ByteArray,(#[Yq ⟨#[110]⟩,Yq ⟨#[110,97,109,101]⟩,Yq ⟨#[120,49]⟩]:Array Value)[q]?=some (Yq u)/\u.size<=5/\St.aF u.1.1=true:=by
      rcases(show q=0\/q=1\/q=2 by omega)with h|h|h<;>subst h<;>exact⟨_,rfl,by decide,by decide⟩
     have hcell:=gR w4 w5 _ _ B g hk5 kg (by omega) q _ hu;have jS:=aa gl;have oJ:=aa (aN (bO dm.out ((ac.refl _).alloc (Yw #[Yq ⟨#[110]⟩,Yq ⟨#[110,97,109,101]⟩,Yq ⟨#[120,49]⟩] 9))) hk5 (λ_ e=>.inl e));have fA:=aa (eB (iH.out.alloc (Yw #[Yq ⟨#[110]⟩,Yq ⟨#[110,97,109,101]⟩,Yq ⟨#[120,49]⟩] 9)) hk5 (by omega));have tF:=aa (eB (qV.out.alloc (Yw #[Yq ⟨#[110]⟩,Yq ⟨#[110,97,109,101]⟩,Yq ⟨#[120,49]⟩] 9)) hk5 (by omega));have cD:w5.1[w3.1.size]?=some (Yw #[Yp Yv 1,Yq t,Yp Yv 0] 36 (0,0)):=(hk5.block w3.1.size (by simp;omega) (by simp;omega)).trans ((((ac.refl w4).alloc _).below.block w3.1.size nW).trans hb4);haveI:af w4.1.size w5:=af.of (cS _ _ hcell);have ON:q<3:=by omega
     have f0:w5.frozen? ⟨w3.1.size,0,none⟩=false:=bu cD 0;have f1:w5.frozen? ⟨w3.1.size,1,none⟩=false:=bu cD 1;have f2:w5.frozen? ⟨w3.1.size,2,none⟩=false:=bu cD 2;have g0:w5.cell? ⟨w3.1.size,0,none⟩=some (Yp Yv 1):=aj cD 0;have g1:w5.cell? ⟨w3.1.size,1,none⟩=some (Yq t):=aj cD 1;have g2:w5.cell? ⟨w3.1.size,2,none⟩=some (Yp Yv 0):=aj cD 2;haveI:af w3.1.size w5:=af.of (ae cD);have hob:(Yr A9 f.length c9).ownBlock≠some w3.1.size:=λe=>by have:=gf _ e;omega
     have iU:(Yr gJ op.length bK).ownBlock≠some w3.1.size:=λe=>by have:=xZ _ e;omega
     have hkey:∀W,W=((w5.setCell ⟨w3.1.size,0,none⟩ (Yp Yv 5)).setCell ⟨w3.1.size,1,none⟩ (Yq u)).setCell ⟨w3.1.size,2,none⟩ (Yp Yv 0)->W.ownsRow w.1.size 36 3 (Yr A9 f.length c9) f.length (ak f)/\W.ownsRow w.1.size 36 3 (Yr gJ op.length bK) op.length (ak op)/\bp W B g (P+1+9*(k+1))/\w.grownBy W (some g)/\W.1.size=w5.1.size/\W.1[w3.1.size]?=some (Yw #[Yp Yv 5,Yq u,Yp Yv 0] 36 (0,0)):=by
      intro W hW;subst hW;have hBb:∀x,some w3.1.size=some x->B<=x:=λx e=>by cases e;omega
      refine⟨aC (aC (aC fA.out hob) hob) hob,aC (aC (aC tF.out iU) iU) iU,?_,bU (bU (bU oJ.out _ _ (.inr (by show w.1.size<=w3.1.size;omega))) _ _ (.inr (by show w.1.size<=w3.1.size;omega))) _ _ (.inr (by show w.1.size<=w3.1.size;omega)),by simp,heap_setCell_same _ w3.1.size 2 _ _ _ (heap_setCell_same _ w3.1.size 1 _ _ _ (heap_setCell_same w5 w3.1.size 0 _ _ _ cD))⟩;exact(((jS.out.gb (cH w5 ⟨w3.1.size,0,none⟩ _) hBb).gb (cH _ ⟨w3.1.size,1,none⟩ _) hBb).gb (cH _ ⟨w3.1.size,2,none⟩ _) hBb).le (by omega)
     have HKEY:=aa (hkey _ rfl);have zD:=HKEY.out.2.2.1.lt.2;clear gl hk5 eS dm iH qV hkey hu hq;go_wp2_with fail;refine(eg.out _ _ (5,u.1.1,0) ?_ ?_ ?_).mono ?_
     ·exact(a7 HKEY.out.1 rfl).ai ((ac.refl _).alloc _)
     ·rw[<-bo u];exact fE _ _ _ _ (by simp) (by rw[World.cell?_alloc_at _ _ _ _ (by simp)];rfl) (by rw[World.cell?_alloc_at _ _ _ _ (by simp)];rfl) (by rw[World.cell?_alloc_at _ _ _ _ (by simp)];rfl)
     ·rw[cA];simp;omega
     rintro e w7 ⟨v7,rfl,dk,bR⟩;have hrel:=il.out (5,u.1.1,0) v7 _ _ w7 op c _ rfl (jT.out.slot _ hun) (by simp;omega) (by omega) (by omega) dk (HKEY.out.2.1.alloc _) bR (by have:=HKEY.out.2.2.2.1.size;simp at this |-;omega) ((HKEY.out.2.2.1.ai ((ac.refl _).alloc _)).ai bR) (bO HKEY.out.2.2.2.1 (((ac.refl _).alloc _).trans bR));have bw:=aa hrel;clear hrel dk bR hcell;go_wp2;exact⟨bw.out,by simp[intOf];omega⟩
   ·subst h;clear pn d0 d1 d2;go_wp2_with fail;refine(bW B g _ 2 _ (eS.out.ai ((ac.refl _).alloc (Yw #[Yq ⟨#[98,114]⟩,Yq ⟨#[105,109,103,32,97]⟩] 9))) (by omega) (by omega) (by omega)).mono ?_;rintro e w5 ⟨q,rfl,hq,gl,hk5⟩
    obtain⟨u,hu,jl,hun⟩:∃u:ByteArray,(#[Yq ⟨#[98,114]⟩,Yq ⟨#[105,109,103,32,97]⟩]:Array Value)[q]?=some (Yq u)/\u.size<=5/\u.1.1∈St.GU:=by
     rcases(show q=0\/q=1 by omega)with h|h<;>subst h<;>exact⟨_,rfl,by decide,by decide⟩
    have hcell:=gR w4 w5 _ _ B g hk5 kg (by omega) q _ hu;have jS:=aa gl;have oJ:=aa (aN (bO dm.out ((ac.refl _).alloc (Yw #[Yq ⟨#[98,114]⟩,Yq ⟨#[105,109,103,32,97]⟩] 9))) hk5 (λ_ e=>.inl e));have fA:=aa (eB (iH.out.alloc (Yw #[Yq ⟨#[98,114]⟩,Yq ⟨#[105,109,103,32,97]⟩] 9)) hk5 (by omega));have tF:=aa (eB (qV.out.alloc (Yw #[Yq ⟨#[98,114]⟩,Yq ⟨#[105,109,103,32,97]⟩] 9)) hk5 (by omega));have cD:w5.1[w3.1.size]?=some (Yw #[Yp Yv 1,Yq t,Yp Yv 0] 36 (0,0)):=(hk5.block w3.1.size (by simp;omega) (by simp;omega)).trans ((((ac.refl w4).alloc _).below.block w3.1.size nW).trans hb4);haveI:af w4.1.size w5:=af.of (cS _ _ hcell);have ON:q<2:=by omega
    have f0:w5.frozen? ⟨w3.1.size,0,none⟩=false:=bu cD 0;have f1:w5.frozen? ⟨w3.1.size,1,none⟩=false:=bu cD 1;have f2:w5.frozen? ⟨w3.1.size,2,none⟩=false:=bu cD 2;have g0:w5.cell? ⟨w3.1.size,0,none⟩=some (Yp Yv 1):=aj cD 0;have g1:w5.cell? ⟨w3.1.size,1,none⟩=some (Yq t):=aj cD 1;have g2:w5.cell? ⟨w3.1.size,2,none⟩=some (Yp Yv 0):=aj cD 2;haveI:af w3.1.size w5:=af.of (ae cD);have hob:(Yr A9 f.length c9).ownBlock≠some w3.1.size:=λe=>by have:=gf _ e;omega
    have iU:(Yr gJ op.length bK).ownBlock≠some w3.1.size:=λe=>by have:=xZ _ e;omega
    have hkey:∀W,W=((w5.setCell ⟨w3.1.size,0,none⟩ (Yp Yv 4)).setCell ⟨w3.1.size,1,none⟩ (Yq u)).setCell ⟨w3.1.size,2,none⟩ (Yp Yv ((c:Int)+1))->W.ownsRow w.1.size 36 3 (Yr A9 f.length c9) f.length (ak f)/\W.ownsRow w.1.size 36 3 (Yr gJ op.length bK) op.length (ak op)/\bp W B g (P+1+9*(k+1))/\w.grownBy W (some g)/\W.1.size=w5.1.size/\W.1[w3.1.size]?=some (Yw #[Yp Yv 4,Yq u,Yp Yv ((c:Int)+1)] 36 (0,0)):=by
     intro W hW;subst hW;have hBb:∀x,some w3.1.size=some x->B<=x:=λx e=>by cases e;omega
     refine⟨aC (aC (aC fA.out hob) hob) hob,aC (aC (aC tF.out iU) iU) iU,?_,bU (bU (bU oJ.out _ _ (.inr (by show w.1.size<=w3.1.size;omega))) _ _ (.inr (by show w.1.size<=w3.1.size;omega))) _ _ (.inr (by show w.1.size<=w3.1.size;omega)),by simp,heap_setCell_same _ w3.1.size 2 _ _ _ (heap_setCell_same _ w3.1.size 1 _ _ _ (heap_setCell_same w5 w3.1.size 0 _ _ _ cD))⟩;exact(((jS.out.gb (cH w5 ⟨w3.1.size,0,none⟩ _) hBb).gb (cH _ ⟨w3.1.size,1,none⟩ _) hBb).gb (cH _ ⟨w3.1.size,2,none⟩ _) hBb).le (by omega)
    have HKEY:=aa (hkey _ rfl);have zD:=HKEY.out.2.2.1.lt.2;clear gl hk5 eS dm iH qV hkey hu hq;go_wp2_with fail;refine(eg.out _ _ (4,u.1.1,(c:Int)+1) ?_ ?_ ?_).mono ?_
    ·exact(a7 HKEY.out.1 rfl).ai ((ac.refl _).alloc _)
    ·rw[<-bo u];exact ej _ _ _ _ _ (by simp) (by rw[World.cell?_alloc_at _ _ _ _ (by simp)];rfl) (by rw[World.cell?_alloc_at _ _ _ _ (by simp)];rfl) (by rw[World.cell?_alloc_at _ _ _ _ (by simp)];rfl)
    ·rw[cA];simp;omega
    rintro e w7 ⟨v7,rfl,dk,bR⟩;have hrel:=il.out (4,u.1.1,(c:Int)+1) v7 _ _ w7 op (c+1) (Yp Yv ((c:Int)+1)) rfl (jT.out.empty _ hun) (by simp;omega) (by omega) (by omega) dk (HKEY.out.2.1.alloc _) bR (by have:=HKEY.out.2.2.2.1.size;simp at this |-;omega) ((HKEY.out.2.2.1.ai ((ac.refl _).alloc _)).ai bR) (bO HKEY.out.2.2.2.1 (((ac.refl _).alloc _).trans bR));have bw:=aa hrel;clear hrel dk bR hcell;go_wp2;exact⟨bw.out,by simp[intOf];omega⟩
   ·rcases h with h|h
    all_goals
     subst h;clear pn d0 d1 d2;go_wp2_with fail;refine(bW B g _ 3 _ (eS.out.ai ((ac.refl _).alloc (Yw #[Yq ⟨#[98]⟩,Yq ⟨#[105]⟩,Yq ⟨#[97,32,104,61,49]⟩] 9))) (by omega) (by omega) (by omega)).mono ?_;rintro e w5 ⟨q,rfl,hq,gl,hk5⟩
     obtain⟨u,hu,jl,hun⟩:∃u:ByteArray,(#[Yq ⟨#[98]⟩,Yq ⟨#[105]⟩,Yq ⟨#[97,32,104,61,49]⟩]:Array Value)[q]?=some (Yq u)/\u.size<=5/\u.1.1∈St.BY:=by
      rcases(show q=0\/q=1\/q=2 by omega)with h|h|h<;>subst h<;>exact⟨_,rfl,by decide,by decide⟩
     have hcell:=gR w4 w5 _ _ B g hk5 kg (by omega) q _ hu;have jS:=aa gl;have oJ:=aa (aN (bO dm.out ((ac.refl _).alloc (Yw #[Yq ⟨#[98]⟩,Yq ⟨#[105]⟩,Yq ⟨#[97,32,104,61,49]⟩] 9))) hk5 (λ_ e=>.inl e));have fA:=aa (eB (iH.out.alloc (Yw #[Yq ⟨#[98]⟩,Yq ⟨#[105]⟩,Yq ⟨#[97,32,104,61,49]⟩] 9)) hk5 (by omega));have tF:=aa (eB (qV.out.alloc (Yw #[Yq ⟨#[98]⟩,Yq ⟨#[105]⟩,Yq ⟨#[97,32,104,61,49]⟩] 9)) hk5 (by omega));have cD:w5.1[w3.1.size]?=some (Yw #[Yp Yv 1,Yq t,Yp Yv 0] 36 (0,0)):=(hk5.block w3.1.size (by simp;omega) (by simp;omega)).trans ((((ac.refl w4).alloc _).below.block w3.1.size nW).trans hb4);haveI:af w4.1.size w5:=af.of (cS _ _ hcell);have ON:q<3:=by omega
     have f0:w5.frozen? ⟨w3.1.size,0,none⟩=false:=bu cD 0;have f1:w5.frozen? ⟨w3.1.size,1,none⟩=false:=bu cD 1;have f2:w5.frozen? ⟨w3.1.size,2,none⟩=false:=bu cD 2;have g0:w5.cell? ⟨w3.1.size,0,none⟩=some (Yp Yv 1):=aj cD 0;have g1:w5.cell? ⟨w3.1.size,1,none⟩=some (Yq t):=aj cD 1;have g2:w5.cell? ⟨w3.1.size,2,none⟩=some (Yp Yv 0):=aj cD 2;haveI:af w3.1.size w5:=af.of (ae cD);have hob:(Yr A9 f.length c9).ownBlock≠some w3.1.size:=λe=>by have:=gf _ e;omega
     have iU:(Yr gJ op.length bK).ownBlock≠some w3.1.size:=λe=>by have:=xZ _ e;omega
     have hkey:∀W,W=((w5.setCell ⟨w3.1.size,0,none⟩ (Yp Yv 2)).setCell ⟨w3.1.size,1,none⟩ (Yq u)).setCell ⟨w3.1.size,2,none⟩ (Yp Yv ((c:Int)+1))->W.ownsRow w.1.size 36 3 (Yr A9 f.length c9) f.length (ak f)/\W.ownsRow w.1.size 36 3 (Yr gJ op.length bK) op.length (ak op)/\bp W B g (P+1+9*(k+1))/\w.grownBy W (some g)/\W.1.size=w5.1.size/\W.1[w3.1.size]?=some (Yw #[Yp Yv 2,Yq u,Yp Yv ((c:Int)+1)] 36 (0,0)):=by
      intro W hW;subst hW;have hBb:∀x,some w3.1.size=some x->B<=x:=λx e=>by cases e;omega
      refine⟨aC (aC (aC fA.out hob) hob) hob,aC (aC (aC tF.out iU) iU) iU,?_,bU (bU (bU oJ.out _ _ (.inr (by show w.1.size<=w3.1.size;omega))) _ _ (.inr (by show w.1.size<=w3.1.size;omega))) _ _ (.inr (by show w.1.size<=w3.1.size;omega)),by simp,heap_setCell_same _ w3.1.size 2 _ _ _ (heap_setCell_same _ w3.1.size 1 _ _ _ (heap_setCell_same w5 w3.1.size 0 _ _ _ cD))⟩;exact(((jS.out.gb (cH w5 ⟨w3.1.size,0,none⟩ _) hBb).gb (cH _ ⟨w3.1.size,1,none⟩ _) hBb).gb (cH _ ⟨w3.1.size,2,none⟩ _) hBb).le (by omega)
     have HKEY:=aa (hkey _ rfl);have zD:=HKEY.out.2.2.1.lt.2;clear gl hk5 eS dm iH qV hkey hu hq;go_wp2_with (at_builtin;refine wpList_append_own _ rfl _ _ 37 rfl w.1.size 36 i0 (.agg #[.int .i64 0,.string ⟨#[]⟩,.int .i64 0]) 3 32 Tryz.underlying37 hi hz0 hz1 hz2 rfl (by decide) (.slice gJ op.length bK) op.length _ rfl (HKEY.out.2.1.alloc _) _ 1 1 [.int .i64 2,.string u,.int .i64 ((c:Int)+1)] rfl rfl ?_ (cX _ _ _) (by unfold maxLen;omega) (by omega) ?_ ?_)
     ·exact eL _ _ _ _ _ _ (by simp)
     ·have:=HKEY.out.2.2.2.1.size;simp at this |-;omega
     intro v' w6 hown' hgrow _;have hwk:=HKEY.out.2.2.2.1.size;have Xu:=HKEY.out.2.2.2.2.1;have DJ:=ae cD;have hrow:∀x,(Yr gJ op.length bK).ownBlock=some x->w.1.size<=x:=λx hx=>aD HKEY.out.2.1 x hx
     have tm:=(HKEY.out.1.alloc (Yw #[Yp Yv 2,Yq u,Yp Yv ((c:Int)+1)] 36)).kept hgrow HD.out;have fY:w6.1[w3.1.size]?=some (Yw #[Yp Yv 2,Yq u,Yp Yv ((c:Int)+1)] 36 (0,0)):=(hgrow.block w3.1.size (by simp;omega) (λe=>iU e.symm)).trans ((((ac.refl _).alloc _).below.block w3.1.size (by simp;omega)).trans HKEY.out.2.2.2.2.2)
     have ms:w6.ownsRow w.1.size 36 3 v' (op++[((2:Int),u.1.1,(c:Int)+1)]).length (ak (op++[((2:Int),u.1.1,(c:Int)+1)])):=by
      rw[bM];simp only[bo,List.length_append,List.length_cons,List.length_nil];exact hown'
     have xW:bp w6 B g (P+1+9*(k+1)):=(HKEY.out.2.2.1.ai ((ac.refl _).alloc _)).gb hgrow (λx e=>Nat.le_trans hB (hrow x e));have Gd:w.grownBy w6 (some g):=aN (bO HKEY.out.2.2.2.1 ((ac.refl _).alloc _)) hgrow (λx e=>.inr (hrow x e));have c0:w6.cell? ⟨w3.1.size,0,none⟩=some (Yp Yv 2):=aj fY 0;have c1:w6.cell? ⟨w3.1.size,1,none⟩=some (Yq u):=aj fY 1;have c2:w6.cell? ⟨w3.1.size,2,none⟩=some (Yp Yv ((c:Int)+1)):=aj fY 2;haveI:af w3.1.size w6:=af.of (ae fY);obtain⟨Av,cv,rfl,_,_,_⟩:=aW ms;have pR:=aa tm;have jJ:=aa ms;have qT:=aa xW;have xh:=aa Gd;have hzz:=Gd.size;clear hown' hgrow tm ms xW Gd fY hrow HKEY f0 f1 f2 g0 g1 g2 hcell;go_wp2_with fail;refine(eg.out _ _ (2,u.1.1,(c:Int)+1) ?_ ?_ ?_).mono ?_
     ·exact(a7 pR.out rfl).ai ((ac.refl _).alloc _)
     ·rw[<-bo u];exact ej _ _ _ _ _ (by simp) (by rw[World.cell?_alloc_at _ _ _ _ (by simp)];rfl) (by rw[World.cell?_alloc_at _ _ _ _ (by simp)];rfl) (by rw[World.cell?_alloc_at _ _ _ _ (by simp)];rfl)
     ·rw[cA];simp;omega
     rintro e w7 ⟨v7,rfl,dk,bR⟩;have hrel:=il.out (2,u.1.1,(c:Int)+1) v7 _ _ w7 (op++[((2:Int),u.1.1,(c:Int)+1)]) (c+1) (Yp Yv ((c:Int)+1)) rfl (jT.out.opened _ hun) (by simp;omega) (by simp) (by omega) dk (jJ.out.alloc _) bR (by simp;omega) ((qT.out.ai ((ac.refl _).alloc _)).ai bR) (bO xh.out (((ac.refl _).alloc _).trans bR));have bw:=aa hrel;clear hrel dk bR;go_wp2;exact⟨by have h:=bw.out;simp only[List.length_append,List.length_cons,List.length_nil,Nat.zero_add]at h;exact h,by simp[intOf];omega⟩
   ·rcases h with h|h
    all_goals
     subst h;clear pn
     by_cases hop:op.length=0
     ·have y1:¬(0:Int)<=(op.length:Int)-1:=by omega
      have Iw:op.length<=0:=by omega
      clear hop;cases ns
      ·have cD:=hb4;clear d0 d1 d2 hb4;have f0:w4.frozen? ⟨w3.1.size,0,none⟩=false:=bu cD 0;have f1:w4.frozen? ⟨w3.1.size,1,none⟩=false:=bu cD 1;have f2:w4.frozen? ⟨w3.1.size,2,none⟩=false:=bu cD 2;have g0:w4.cell? ⟨w3.1.size,0,none⟩=some (Yp Yv 1):=aj cD 0;have g1:w4.cell? ⟨w3.1.size,1,none⟩=some (Yq t):=aj cD 1;have g2:w4.cell? ⟨w3.1.size,2,none⟩=some (Yp Yv 0):=aj cD 2;haveI:af w3.1.size w4:=af.of (ae cD);have hob:(Yr A9 f.length c9).ownBlock≠some w3.1.size:=λe=>by have:=gf _ e;omega
       have iU:(Yr gJ op.length bK).ownBlock≠some w3.1.size:=λe=>by have:=xZ _ e;omega
       have hkey:∀W,W=((w4.setCell ⟨w3.1.size,0,none⟩ (Yp Yv 3)).setCell ⟨w3.1.size,1,none⟩ (Yq ⟨#[98]⟩)).setCell ⟨w3.1.size,2,none⟩ (Yp Yv ((c:Int)+1))->W.ownsRow w.1.size 36 3 (Yr A9 f.length c9) f.length (ak f)/\W.ownsRow w.1.size 36 3 (Yr gJ op.length bK) op.length (ak op)/\bp W B g (P+1+9*(k+1))/\w.grownBy W (some g)/\W.1.size=w4.1.size/\W.1[w3.1.size]?=some (Yw #[Yp Yv 3,Yq ⟨#[98]⟩,Yp Yv ((c:Int)+1)] 36 (0,0)):=by
        intro W hW;subst hW;have hBb:∀x,some w3.1.size=some x->B<=x:=λx e=>by cases e;omega
        refine⟨aC (aC (aC iH.out hob) hob) hob,aC (aC (aC qV.out iU) iU) iU,?_,bU (bU (bU dm.out _ _ (.inr (by show w.1.size<=w3.1.size;omega))) _ _ (.inr (by show w.1.size<=w3.1.size;omega))) _ _ (.inr (by show w.1.size<=w3.1.size;omega)),by simp,heap_setCell_same _ w3.1.size 2 _ _ _ (heap_setCell_same _ w3.1.size 1 _ _ _ (heap_setCell_same w4 w3.1.size 0 _ _ _ cD))⟩;exact(((eS.out.gb (cH w4 ⟨w3.1.size,0,none⟩ _) hBb).gb (cH _ ⟨w3.1.size,1,none⟩ _) hBb).gb (cH _ ⟨w3.1.size,2,none⟩ _) hBb).le (by omega)
       have HKEY:=aa (hkey _ rfl);have zD:=HKEY.out.2.2.1.lt.2;clear hkey;go_wp2_with fail;refine(eg.out _ _ (3,[98],(c:Int)+1) ?_ ?_ ?_).mono ?_
       ·exact(a7 HKEY.out.1 rfl).ai ((ac.refl _).alloc _)
       ·exact ej _ _ _ _ _ (by simp) (by rw[World.cell?_alloc_at _ _ _ _ (by simp)];rfl) (by rw[World.cell?_alloc_at _ _ _ _ (by simp)];rfl) (by rw[World.cell?_alloc_at _ _ _ _ (by simp)];rfl)
       ·rw[cA];simp;omega
       rintro e w7 ⟨v7,rfl,dk,bR⟩;have hrel:=il.out (3,[98],(c:Int)+1) v7 _ _ w7 op (c+1) (Yp Yv ((c:Int)+1)) rfl (jT.out.stray rfl) (by simp) (by omega) (by omega) dk (HKEY.out.2.1.alloc _) bR (by have:=HKEY.out.2.2.2.1.size;simp at this |-;omega) ((HKEY.out.2.2.1.ai ((ac.refl _).alloc _)).ai bR) (bO HKEY.out.2.2.2.1 (((ac.refl _).alloc _).trans bR));have bw:=aa hrel;clear hrel dk bR;go_wp2;exact⟨bw.out,by simp[intOf];omega⟩
      clear hb4;go_wp2_with fail;refine(eg.out _ _ (1,t.1.1,0) ?_ ?_ ?_).mono ?_
      ·exact(a7 iH.out rfl).ai ((ac.refl _).alloc _)
      ·rw[<-bo t];exact fE _ _ _ _ (by simp) (by simp) (by simp) (by simp)
      ·rw[cA];simp;omega
      rintro e w7 ⟨v7,rfl,dk,bR⟩;have hrel:=il.out (1,t.1.1,0) v7 _ _ w7 op c _ rfl (jT.out.text _) (by simp;omega) (by omega) (by omega) dk (qV.out.alloc _) bR (by have:=dm.out.size;simp at this |-;omega) (((eS.out.ai ((ac.refl _).alloc _)).ai bR).le (by omega)) (bO dm.out (((ac.refl _).alloc _).trans bR));have bw:=aa hrel;clear hrel dk bR d0 d1 d2;go_wp2;exact⟨bw.out,by simp[intOf];omega⟩
     have y1:(0:Int)<=(op.length:Int)-1:=by omega
     cases ns
     case' false=>
      clear d0 d1 d2;go_wp2_with fail;refine(bW B g _ _ _ eS.out (by omega) ?_ ?_).mono ?_
      ·omega
      ·omega
      rintro e w5 ⟨q,rfl,hq,gl,hk5⟩;have hq2:q<op.length:=by omega
      have jS:=aa gl;have oJ:=aa (aN dm.out hk5 (λ_ e=>.inl e));have fA:=aa (eB iH.out hk5 (by omega));have tF:=aa (eB qV.out hk5 (by omega));have cD:w5.1[w3.1.size]?=some (Yw #[Yp Yv 1,Yq t,Yp Yv 0] 36 (0,0)):=(hk5.block w3.1.size (by omega) (by simp;omega)).trans hb4
     case' true=>
      obtain⟨q,hq⟩:∃q,op.length=q+1:=⟨op.length-1,by omega⟩;have Db:(op.length:Int)-1=(q:Int):=by omega
      rw[Db]at y1;have hq2:q<op.length:=by omega
      obtain⟨w5,rfl⟩:∃w5:YA,w5=w4:=⟨_,rfl⟩;have jS:=eS;have oJ:=dm;have fA:=iH;have tF:=qV;have cD:=hb4;clear hq d0 d1 d2
     all_goals
      obtain⟨dC,off10,e10,ju,hc10⟩:=(a7 tF.out rfl) (by omega);subst e10;obtain⟨p0,p1,p2⟩:=hc10 q hq2;have hsm:=(jT.out.small op[q] (List.getElem_mem hq2)).1;have mq:=St.eV.closed q hq2 (λe=>by cases e<;>omega) jT.out;generalize op[q]=y at p0 p1 p2 hsm mq;obtain⟨yk,yt,yi⟩:=y;simp only at p0 p1 p2 hsm mq;have UH:=aa mq;clear hc10 mq;have hnl:=St.wF yt;go_wp2_with fail;refine bZ (λa b=>a.grownBy b (some w3.1.size)) (λL W=>if L 12=true then ∃W0,ac w5 W0/\W=((W0.setCell ⟨w3.1.size,0,none⟩ (Yp Yv 3)).setCell ⟨w3.1.size,1,none⟩ (Yq ⟨(St.nameOf yt).toArray⟩)).setCell ⟨w3.1.size,2,none⟩ (Yp Yv yi)else ac w5 W) [λv _=>v=Yr (some ⟨dC,off10,none⟩) op.length bK,λv _=>v=Yp Yv q,λv _=>v=Yt (some ⟨dC,off10+q*3,none⟩),λv _=>v=Yt (some ⟨dC,off10+q*3+1,none⟩),λv _=>v=Yq ⟨yt.toArray⟩,λv _=>v=Yq ⟨(St.nameOf yt).toArray⟩,λv _=>v=Yr (some ⟨dC,off10,none⟩) op.length bK,λv _=>v=Yp Yv q,λv _=>v=Yt (some ⟨dC,off10+q*3,none⟩),λv _=>v=Yt (some ⟨dC,off10+q*3+2,none⟩),λv _=>v=Yp Yv yi,λv _=>v=.agg #[Yp Yv 3,Yq ⟨(St.nameOf yt).toArray⟩,Yp Yv yi],ko] (λa=>bC a _) (λa b c h k=>aN h k (λ_ e=>.inl e)) (by kernel_rfl) (by rfl) (by kernel_rfl) (by kernel_rfl) ?_ ?_ ?_ ?_ ?_;rotate_left 1
      ·intro ρ;simp only[cf,Act.put,ax,aw,ay,Nat.zero_add,Nat.reduceAdd];exact rfl
      ·exact uZ
      ·refine aq.cons (λρ L W hR hI hL hD hO hF K hK=>?_) ?_
       ·clear hF hD hO;simp only[Act.put,ax,aw,ay]at hK |-;go_simp;refine hK _ _ (bC _ _) (by simpa[ar]using hI) (λW2 h2=>?_);rfl
       refine aq.cons (λρ L W hR hI hL hD hO hF K hK=>?_) ?_
       ·clear hF hD hO;simp only[Act.put,ax,aw,ay]at hK |-;go_simp;refine hK _ _ (bC _ _) (by simpa[ar]using hI) (λW2 h2=>?_);rfl
       refine aq.cons (λρ L W hR hI hL hD hO hF K hK=>?_) ?_
       ·have f0:=ag hF (j:=0) (by decide);have f1:=ag hF (j:=1) (by decide);clear hF hD hO;simp only[Act.put,ax,aw,ay]at hK |-;have e0:ρ 0=Yr (some ⟨dC,off10,none⟩) op.length bK:=f0;have e1:ρ 1=Yp Yv q:=f1;rw[e0,e1]at hK |-;have z1:(q:Int)<(op.length:Int):=by omega
        go_simp;refine hK _ _ (bC _ _) (by simpa[ar]using hI) (λW2 h2=>?_);rfl
       refine aq.cons (λρ L W hR hI hL hD hO hF K hK=>?_) ?_
       ·have f2:=ag hF (j:=2) (by decide);clear hF hD hO;simp only[Act.put,ax,aw,ay]at hK |-;have e2:ρ 2=Yt (some ⟨dC,off10+q*3,none⟩):=f2;rw[e2]at hK |-;go_simp;refine hK _ _ (bC _ _) (by simpa[ar]using hI) (λW2 h2=>?_);rfl
       refine aq.cons (λρ L W hR hI hL hD hO hF K hK=>?_) ?_
       ·have f3:=ag hF (j:=3) (by decide);have h12:L 12=false:=hD.not (p:=12) rfl (by decide) hL;have lg:ac w5 W:=by simpa[h12]using hI
        clear hF hD hO;simp only[Act.put,ax,aw,ay]at hK |-;have e3:ρ 3=Yt (some ⟨dC,off10+q*3+1,none⟩):=f3;rw[e3]at hK |-;have hc:=(lg.cell (p:=⟨dC,off10+q*3+1,none⟩) ju).trans p1;haveI:af dC W:=af.of (Nat.lt_of_lt_of_le ju lg.size);go_simp;refine hK _ _ (bC _ _) (by simpa[ar]using hI) (λW2 h2=>?_);rfl
       refine aq.cons (λρ L W hR hI hL hD hO hF K hK=>?_) ?_
       ·have f4:=ag hF (j:=4) (by decide);have h12:L 12=false:=hD.not (p:=12) rfl (by decide) hL;have lg:ac w5 W:=by simpa[h12]using hI
        clear hF hD hO;simp only[Act.put,ax,aw,ay]at hK |-;have e4:ρ 4=Yq ⟨yt.toArray⟩:=f4;rw[e4]at hK |-;refine vI (o:=⟨some 86,_,_,_,_,_⟩) rfl 105 #[Yq ⟨yt.toArray⟩] _ (kQ yt W (by omega)) ?_ ?_
        ·go_simp
        rintro e W2 ⟨rfl,hu⟩;exact⟨_,rfl,hK _ _ (hu.gb _) (by simpa[ar,h12]using lg.trans hu) (λW3 h3=>rfl)⟩
       refine aq.cons (λρ L W hR hI hL hD hO hF K hK=>?_) ?_
       ·clear hF hD hO;simp only[Act.put,ax,aw,ay]at hK |-;go_simp;refine hK _ _ (bC _ _) (by simpa[ar]using hI) (λW2 h2=>?_);rfl
       refine aq.cons (λρ L W hR hI hL hD hO hF K hK=>?_) ?_
       ·clear hF hD hO;simp only[Act.put,ax,aw,ay]at hK |-;go_simp;refine hK _ _ (bC _ _) (by simpa[ar]using hI) (λW2 h2=>?_);rfl
       refine aq.cons (λρ L W hR hI hL hD hO hF K hK=>?_) ?_
       ·have f6:=ag hF (j:=6) (by decide);have f7:=ag hF (j:=7) (by decide);clear hF hD hO;simp only[Act.put,ax,aw,ay]at hK |-;have e6:ρ 6=Yr (some ⟨dC,off10,none⟩) op.length bK:=f6;have e7:ρ 7=Yp Yv q:=f7;rw[e6,e7]at hK |-;have z1:(q:Int)<(op.length:Int):=by omega
        go_simp;refine hK _ _ (bC _ _) (by simpa[ar]using hI) (λW2 h2=>?_);rfl
       refine aq.cons (λρ L W hR hI hL hD hO hF K hK=>?_) ?_
       ·have f8:=ag hF (j:=8) (by decide);clear hF hD hO;simp only[Act.put,ax,aw,ay]at hK |-;have e8:ρ 8=Yt (some ⟨dC,off10+q*3,none⟩):=f8;rw[e8]at hK |-;go_simp;refine hK _ _ (bC _ _) (by simpa[ar]using hI) (λW2 h2=>?_);rfl
       refine aq.cons (λρ L W hR hI hL hD hO hF K hK=>?_) ?_
       ·have f9:=ag hF (j:=9) (by decide);have h12:L 12=false:=hD.not (p:=12) rfl (by decide) hL;have lg:ac w5 W:=by simpa[h12]using hI
        clear hF hD hO;simp only[Act.put,ax,aw,ay]at hK |-;have e9:ρ 9=Yt (some ⟨dC,off10+q*3+2,none⟩):=f9;rw[e9]at hK |-;have hc:=(lg.cell (p:=⟨dC,off10+q*3+2,none⟩) ju).trans p2;haveI:af dC W:=af.of (Nat.lt_of_lt_of_le ju lg.size);go_simp;refine hK _ _ (bC _ _) (by simpa[ar]using hI) (λW2 h2=>?_);rfl
       refine aq.cons (λρ L W hR hI hL hD hO hF K hK=>?_) ?_
       ·have f5:=ag hF (j:=5) (by decide);have f10:=ag hF (j:=10) (by decide);clear hF hD hO;simp only[Act.put,ax,aw,ay]at hK |-;have e5:ρ 5=Yq ⟨(St.nameOf yt).toArray⟩:=f5;have e10:ρ 10=Yp Yv yi:=f10;rw[e5,e10]at hK |-;go_simp;refine hK _ _ (bC _ _) (by simpa[ar]using hI) (λW2 h2=>?_);rfl
       refine aq.cons (λρ L W hR hI hL hD hO hF K hK=>?_) ?_
       ·have f11:=ag hF (j:=11) (by decide);have lg:ac w5 W:=by simpa[hL]using hI
        clear hF hD hO;simp only[Act.put,ax,aw,ay]at hK |-;have e11:ρ 11=.agg #[Yp Yv 3,Yq ⟨(St.nameOf yt).toArray⟩,Yp Yv yi]:=f11;rw[e11]at hK |-;have hbW:=(lg.below.block w3.1.size (ae cD)).trans cD;have f0:W.frozen? ⟨w3.1.size,0,none⟩=false:=bu hbW 0;have f1:W.frozen? ⟨w3.1.size,1,none⟩=false:=bu hbW 1;have f2:W.frozen? ⟨w3.1.size,2,none⟩=false:=bu hbW 2;have g0:W.cell? ⟨w3.1.size,0,none⟩=some (Yp Yv 1):=aj hbW 0;have g1:W.cell? ⟨w3.1.size,1,none⟩=some (Yq t):=aj hbW 1;have g2:W.cell? ⟨w3.1.size,2,none⟩=some (Yp Yv 0):=aj hbW 2;haveI:af w3.1.size W:=af.of (ae hbW);go_simp;refine hK undef _ (bU (bU (cH _ ⟨w3.1.size,0,none⟩ _) ⟨w3.1.size,1,none⟩ _ (.inl rfl)) ⟨w3.1.size,2,none⟩ _ (.inl rfl)) (by simp only[ar,if_true];exact⟨W,lg,rfl⟩) (λ_ _=>trivial)
       exact aq.nil
      intro ρ L W hR hI hL hF;have h12:L 12=true:=hL 12 (by decide);rw[if_pos h12]at hI;obtain⟨w6,dQ,hW⟩:=hI;have tE:=aa (aH dQ fA.out);have sU:=aa (aH dQ tF.out);have qT:=aa (jS.out.ai dQ);have xh:=aa (bO oJ.out dQ);have cD:=(dQ.below.block w3.1.size (ae cD)).trans cD;have DJ:=ae cD;clear hR hL hF h12;have f0:w6.frozen? ⟨w3.1.size,0,none⟩=false:=bu cD 0;have f1:w6.frozen? ⟨w3.1.size,1,none⟩=false:=bu cD 1;have f2:w6.frozen? ⟨w3.1.size,2,none⟩=false:=bu cD 2;have g0:w6.cell? ⟨w3.1.size,0,none⟩=some (Yp Yv 1):=aj cD 0;have g1:w6.cell? ⟨w3.1.size,1,none⟩=some (Yq t):=aj cD 1;have g2:w6.cell? ⟨w3.1.size,2,none⟩=some (Yp Yv 0):=aj cD 2;haveI:af w3.1.size w6:=af.of (ae cD);have hob:(Yr A9 f.length c9).ownBlock≠some w3.1.size:=λe=>by have:=gf _ e;omega
      have iU:(Yr (some ⟨dC,off10,none⟩) op.length bK).ownBlock≠some w3.1.size:=λe=>by have:=xZ _ e;omega
      have hkey:∀W,W=((w6.setCell ⟨w3.1.size,0,none⟩ (Yp Yv 3)).setCell ⟨w3.1.size,1,none⟩ (Yq ⟨(St.nameOf yt).toArray⟩)).setCell ⟨w3.1.size,2,none⟩ (Yp Yv yi)->W.ownsRow w.1.size 36 3 (Yr A9 f.length c9) f.length (ak f)/\W.ownsRow w.1.size 36 3 (Yr (some ⟨dC,off10,none⟩) op.length bK) op.length (ak op)/\bp W B g (P+1+9*(k+1))/\w.grownBy W (some g)/\W.1.size=w6.1.size/\W.1[w3.1.size]?=some (Yw #[Yp Yv 3,Yq ⟨(St.nameOf yt).toArray⟩,Yp Yv yi] 36 (0,0)):=by
       intro W hW;subst hW;have hBb:∀x,some w3.1.size=some x->B<=x:=λx e=>by cases e;omega
       refine⟨aC (aC (aC tE.out hob) hob) hob,aC (aC (aC sU.out iU) iU) iU,?_,bU (bU (bU xh.out _ _ (.inr (by show w.1.size<=w3.1.size;omega))) _ _ (.inr (by show w.1.size<=w3.1.size;omega))) _ _ (.inr (by show w.1.size<=w3.1.size;omega)),by simp,heap_setCell_same _ w3.1.size 2 _ _ _ (heap_setCell_same _ w3.1.size 1 _ _ _ (heap_setCell_same w6 w3.1.size 0 _ _ _ cD))⟩;exact(((qT.out.gb (cH w6 ⟨w3.1.size,0,none⟩ _) hBb).gb (cH _ ⟨w3.1.size,1,none⟩ _) hBb).gb (cH _ ⟨w3.1.size,2,none⟩ _) hBb).le (by omega)
      have HKEY:=aa (hkey W hW);have zD:=HKEY.out.2.2.1.lt.2;have XT:=HKEY.out.2.2.2.2.1;have Rw:=HKEY.out.2.2.2.1.size;have hit:=a7 HKEY.out.2.1 rfl;have UI:=aa (sg hit q);have Iq:=UH.out;obtain⟨q1,hq1⟩:∃q1,q1=q+1:=⟨_,rfl⟩;rw[<-hq1]at Iq;have SS:=aa Iq;clear Iq
      obtain⟨ox,hox,hit2⟩:∃ox,(if bK=q1 then(some ⟨dC,off10,none⟩:Option Addr)else some ⟨dC,off10+q1*3,none⟩)=some ⟨dC,ox,none⟩/\aJ W (some ⟨dC,ox,none⟩) (op.drop q1):=by
       by_cases Kx:bK=q1
       ·exact⟨off10,if_pos Kx,λh0=>by simp at h0;omega⟩
       exact⟨off10+q1*3,if_neg Kx,IF hit q1⟩
      have UJ:=aa hit2;clear hit2;have hw:IntKind.i64.wrap (q1:Int)=(q1:Int):=IntWalk.i64_in _ (by omega);have hw1:(q:Int)+1=(q1:Int):=by omega
      have hw2:(0:Int)<=(q1:Int):=by omega
      have hw3:(q1:Int)<=(op.length:Int):=by omega
      have hw4:q1<=op.length:=by omega
      have XY:q+1<=q1:=by omega
      have XZ:q1<=q+1:=by omega
      clear hq1;have hbW:=HKEY.out.2.2.2.2.2;have KC:(q:Int)<=(op.length:Int):=by omega
      have hl4:(q:Int)<=(bK:Int):=by omega
      have Ge:(op.length:Int)<=(bK:Int):=by omega
      haveI:af dC W:=af.of (by have:=dQ.size;omega);clear hkey hW cD f0 f1 f2 g0 g1 g2 p0 p1 p2 hit dQ;go_wp2_with fail;refine wp_region_any (by kernel_rfl) ?_
      try (change wpAny _ _ _ _ _ _ _ (World.drew _))
      refine dt (l':=#[bF,bF,bF,bF,bF,bF,bF,bF,bF,bF]) (by kernel_rfl) ?_;refine wpAny_take (i:=0) (v:=?_) rfl (by kernel_rfl) (by kernel_rfl) (by kernel_rfl) (λ_ _ _ h=>h) (Or.inl ⟨by rfl,?_⟩) ?_;rotate_left 1
      ·(intro W9;go_simp;try with_reducible rfl)
      try go_simp
      refine dt (l':=#[bT,bF,bF,bF,bF,bF,bF,bF,bF,bF]) (by kernel_rfl) ?_;refine wpAny_take (i:=1) (v:=?_) rfl (by kernel_rfl) (by kernel_rfl) (by kernel_rfl) (λ_ _ _ h=>h) (Or.inl ⟨by rfl,?_⟩) ?_;rotate_left 1
      ·(intro W9;go_simp;try with_reducible rfl)
      try go_simp
      refine dt (l':=#[bT,bT,bF,bF,bF,bF,bF,bF,bF,bF]) (by kernel_rfl) ?_;refine wpAny_take (i:=2) (v:=?_) rfl (by kernel_rfl) (by kernel_rfl) (by kernel_rfl) (λ_ _ _ h=>h) (Or.inl ⟨by rfl,?_⟩) ?_;rotate_left 1
      ·(intro W9;go_simp;try with_reducible rfl)
      try go_simp
      refine dt (l':=#[bT,bT,bT,bF,bF,bF,bF,bF,bF,bF]) (by kernel_rfl) ?_;refine wpAny_take (i:=4) (v:=?_) rfl (by kernel_rfl) (by kernel_rfl) (by kernel_rfl) (λ_ _ _ h=>h) (Or.inl ⟨by rfl,?_⟩) ?_;rotate_left 1
      ·(intro W9;go_simp;try with_reducible rfl)
      try go_simp
      refine dt (l':=#[bT,bT,bT,bF,bT,bF,bF,bF,bF,bF]) (by kernel_rfl) ?_;refine wpAny_take (i:=5) (v:=?_) rfl (by kernel_rfl) (by kernel_rfl) (by kernel_rfl) (λ_ _ _ h=>h) (Or.inl ⟨by rfl,?_⟩) ?_;rotate_left 1
      ·(intro W9;go_simp;try with_reducible rfl)
      try go_simp
      refine dt (l':=#[bT,bT,bT,bF,bT,bT,bF,bF,bF,bF]) (by kernel_rfl) ?_;refine wpAny_take (i:=6) (v:=?_) rfl (by kernel_rfl) (by kernel_rfl) (by kernel_rfl) (λ_ _ _ h=>h) (Or.inl ⟨by rfl,?_⟩) ?_;rotate_left 1
      ·(intro W9;go_simp;try with_reducible rfl)
      try go_simp
      refine dt (l':=#[bT,bT,bT,bF,bT,bT,bT,bF,bF,bF]) (by kernel_rfl) ?_;refine wpAny_take (i:=7) (v:=?_) rfl (by kernel_rfl) (by kernel_rfl) (by kernel_rfl) (λ_ _ _ h=>h) (Or.inl ⟨by rfl,?_⟩) ?_;rotate_left 1
      ·(intro W9;go_simp;try with_reducible rfl)
      try go_simp
      refine dt (l':=#[bT,bT,bT,bF,bT,bT,bT,bT,bF,bF]) (by kernel_rfl) ?_;refine wpAny_ready (rs:=[3]) (by kernel_rfl) (by simp) ?_;refine AllReady.cons (o:=⟨some 96,_,_,_,_,_⟩) rfl (λK hK=>?_) AllReady.nil;refine oj (o:=⟨some 96,_,_,_,_,_⟩) rfl _ _ rfl W.1.size (Yr none 0 0) 0 [] rfl (World.ownsRow_nil _ _ _ _) ⟨dC,off10,none⟩ q bK (op.take q) rfl (UI.out.ai (ac.refl W).drew) (by simp;omega) (by omega) (by exact Nat.le_refl _) ?_;intro Ux w8 Gf Ug;have pu:ac W w8:=((ac.refl W).drew).grown Ug (λg e=>by cases e);have lY:=aa (show w8.ownsRow W.1.size 36 3 Ux q (ak (op.take q))by simpa using Gf);have n5:=aa pu;clear Gf Ug pu
      try go_simp
      refine hK _ _ ?_;clear hK K;refine dt (l':=#[bT,bT,bT,bT,bT,bT,bT,bT,bF,bF]) (by kernel_rfl) ?_;refine wpAny_ready (rs:=[8]) (by kernel_rfl) (by simp) ?_;refine AllReady.cons (o:=⟨some 101,_,_,_,_,_⟩) rfl (λK hK=>?_) AllReady.nil;refine oj (o:=⟨some 101,_,_,_,_,_⟩) rfl _ _ rfl W.1.size Ux q (op.take q) rfl lY.out ⟨dC,ox,none⟩ (op.length-q1) (bK-q1) (op.drop q1) ?_ (UJ.out.ai n5.out) (by simp) (by omega) n5.out.size ?_
      ·first|rfl|(go_simp;try rfl)
      intro Vy w9 tm xX;have tp:ac W w9:=n5.out.grown xX (λx e=>aD lY.out x e);have pR:=aa tm;have gX:=aa tp;clear tm xX tp
      try go_simp
      refine hK _ _ ?_;clear hK K;refine dt (l':=#[bT,bT,bT,bT,bT,bT,bT,bT,bT,bF]) (by kernel_rfl) ?_;refine wpAny_take (i:=9) (v:=?_) rfl (by kernel_rfl) (by kernel_rfl) (by kernel_rfl) (λ_ _ _ h=>h) (Or.inl ⟨by rfl,?_⟩) ?_;rotate_left 1
      ·(intro W9;go_simp;try with_reducible rfl)
      try go_simp
      refine dt (l':=#[bT,bT,bT,bT,bT,bT,bT,bT,bT,bT]) (by kernel_rfl) ?_;refine wpAny_done (by kernel_rfl) ?_ _;have Iw:(op.take q++op.drop q1).length=op.length-1:=by simp;omega
      have Vi:q+(op.length-q1)=op.length-1:=by omega
      have ms:w9.ownsRow W.1.size 36 3 Vy (op.take q++op.drop q1).length (ak (op.take q++op.drop q1)):=by
       have:=pR.out
       rw[Vi]at this;rw[Iw];exact this
      obtain⟨Av,cv,rfl,_,_,_⟩:=aW ms;have xU:=(gX.out.below.block w3.1.size (ae hbW)).trans hbW;have c0:w9.cell? ⟨w3.1.size,0,none⟩=some (Yp Yv 3):=aj xU 0;have c1:w9.cell? ⟨w3.1.size,1,none⟩=some (Yq ⟨(St.nameOf yt).toArray⟩):=aj xU 1;have c2:w9.cell? ⟨w3.1.size,2,none⟩=some (Yp Yv yi):=aj xU 2;haveI:af w3.1.size w9:=af.of (ae xU);have XH:=gX.out.size;have jJ:=aa ms;clear ms xU pR;go_wp2_with fail;refine(eg.out _ _ (3,St.nameOf yt,yi) ?_ ?_ ?_).mono ?_
      ·exact((a7 HKEY.out.1 rfl).ai gX.out).ai ((ac.refl _).alloc _)
      ·exact ej _ _ _ _ _ (by simp) (by rw[World.cell?_alloc_at _ _ _ _ (by simp)];rfl) (by rw[World.cell?_alloc_at _ _ _ _ (by simp)];rfl) (by rw[World.cell?_alloc_at _ _ _ _ (by simp)];rfl)
      ·rw[cA];simp;omega
      rintro e w7 ⟨v7,rfl,dk,bR⟩;have hrel:=il.out (3,St.nameOf yt,yi) v7 _ _ w7 (op.take q++op.drop q1) c _ rfl SS.out (by show(St.nameOf yt).length<=18;omega) (by omega) (by omega) dk ((cT jJ.out (by omega)).alloc _) bR (by simp;omega) (((HKEY.out.2.2.1.ai gX.out).ai ((ac.refl _).alloc _)).ai bR) (bO (bO HKEY.out.2.2.2.1 gX.out) (((ac.refl _).alloc _).trans bR));have bw:=aa hrel;clear hrel dk bR;go_wp2;exact⟨by have h:=bw.out;rw[Iw]at h;exact h,by simp[intOf];omega⟩
   subst h;clear pn hb4;go_wp2_with fail;refine(eg.out _ _ (1,t.1.1,0) ?_ ?_ ?_).mono ?_
   ·exact(a7 iH.out rfl).ai ((ac.refl _).alloc _)
   ·rw[<-bo t];exact fE _ _ _ _ (by simp) (by simp) (by simp) (by simp)
   ·rw[cA];simp;omega
   rintro e w7 ⟨v7,rfl,dk,bR⟩;have hrel:=il.out (1,t.1.1,0) v7 _ _ w7 op c _ rfl (jT.out.text _) (by simp;omega) (by omega) (by omega) dk (qV.out.alloc _) bR (by have:=dm.out.size;simp at this |-;omega) (((eS.out.ai ((ac.refl _).alloc _)).ai bR).le (by omega)) (bO dm.out (((ac.refl _).alloc _).trans bR));have bw:=aa hrel;clear hrel dk bR d0 d1 d2;go_wp2;exact⟨bw.out,by simp[intOf];omega⟩
  have z:¬(0:Int)<(i:Int):=by omega
  have z0:i=0:=by omega
  subst z0;cases ns
  ·obtain⟨A9,c9,rfl,_,_,_⟩:=aW HO.out;obtain⟨gJ,bK,rfl,_,_,_⟩:=aW HP.out
   by_cases hop:op.length=0
   ·have y1:¬(0:Int)<=(op.length:Int)-1:=by omega
    have Iw:op.length<=0:=by omega
    clear hop;go_wp2_with fail;refine wp_loop_rounds 1 ?_;rw[rounds_succ];go_wp2;go_ret;exact⟨_,f,op,c,rfl,HO.out,jT.out,by omega,by omega,HG.out.le (by omega),HK.out⟩
   have y1:(0:Int)<=(op.length:Int)-1:=by omega
   go_wp2_with fail;refine wp_loop_rounds 1 ?_;rw[rounds_succ];go_wp2;go_ret;exact⟨_,f,op,c,rfl,HO.out,jT.out,by omega,by omega,HG.out.le (by omega),HK.out⟩
  obtain⟨gJ,bK,rfl,h10c,h10m,_⟩:=aW HP.out;have hst:=jT.out;rw[<-List.take_length (l:=op)]at hst;have HST:=aa hst;clear hst;go_wp2_with fail;go_loopw [9,15] (λs9 pG wr=>SN w B g P n op (Yr gJ op.length bK) c s9 pG wr) (λ_ pG _=>(intOf pG+1).toNat)
  case atStart=>exact⟨op.length,_,f,rfl,rfl,Nat.le_refl _,HO.out,HP.out,HD.out,HST.out,by omega,by omega,HG.out.le (by omega),HK.out⟩
  case round=>
   clear HO HP HD HG HK HST jT;obtain⟨j,zz,f,rfl,hzz,hj,hown,hownp,jL,mq,hfl2,hft2,hG,hk⟩:=hrel;have HG:=aa hG;have HK:=aa hk;have HO:=aa hown;have HP:=aa hownp;have jT:=aa mq;obtain⟨A9,c9,rfl,_,_,_⟩:=aW HO.out
   by_cases DD:j=0
   ·subst DD;obtain rfl:zz=-1:=by omega
    have CC:=aa (show St.eV true f [] c from mq);clear hG hk hown hownp jL mq hzz jT;go_wp2;go_ret;exact⟨_,f,c,rfl,HO.out,CC.out,by omega,by omega,by omega,HG.out,HK.out⟩
   obtain⟨q,rfl⟩:∃q,j=q+1:=⟨j-1,by omega⟩;obtain rfl:zz=(q:Int):=by omega
   have hq2:q<op.length:=by omega
   obtain⟨dC,rfl,hb10B,ju,hc10⟩:=eE hownp (by omega);have Ku:=kH op q hq2;have p1:=hc10 _ _ Ku.2.1;have p2:=hc10 _ _ Ku.2.2;have hsm:=(mq.small op[q] (List.mem_take_iff_getElem.2 ⟨q,by omega,rfl⟩)).1;have CC:=aa (MB mq hq2)
   have Co:(Yr A9 f.length c9).ownBlock≠some dC:=by
    rcases jL with h|h
    ·rw[h];exact λe=>by cases e
    exact h
   generalize op[q]=y at p1 p2 hsm CC;obtain⟨yk,yt,yi⟩:=y;simp only at p1 p2 hsm CC;have hnl:=St.wF yt;have hy0:(0:Int)<=(q:Int):=by omega
   have hy1:(q:Int)<(op.length:Int):=by omega
   haveI:af dC wr:=af.of ju;have e0:=p1;have e1:=p2;clear hG hk hown hownp jL mq hzz Ku hc10 jT DD;go_wp2_with fail;refine wp_region_any (by kernel_rfl) ?_
   try (change wpAny _ _ _ _ _ _ _ (World.drew _))
   refine dt (l':=#[bF,bF,bF,bF,bF,bF,bF,bF,bF,bF,bF,bF,bF,bF,bF,bF]) (by kernel_rfl) ?_;refine wpAny_take (i:=0) (oi:=⟨some 125,_,_,_,_,_⟩) (v:=?_) rfl (by kernel_rfl) (by kernel_rfl) (by kernel_rfl) (λ_ _ _ h=>h) (Or.inl ⟨by rfl,?_⟩) ?_;rotate_left 1
   ·(intro W9;go_simp;try with_reducible rfl)
   conv=>arg 7;simp only[Act.put,ax,aw,ay]
   refine dt (l':=#[bT,bF,bF,bF,bF,bF,bF,bF,bF,bF,bF,bF,bF,bF,bF,bF]) (by kernel_rfl) ?_;refine wpAny_take (i:=1) (oi:=⟨some 126,_,_,_,_,_⟩) (v:=?_) rfl (by kernel_rfl) (by kernel_rfl) (by kernel_rfl) (λ_ _ _ h=>h) (Or.inl ⟨by rfl,?_⟩) ?_;rotate_left 1
   ·(intro W9;go_simp;try with_reducible rfl)
   conv=>arg 7;simp only[Act.put,ax,aw,ay]
   refine dt (l':=#[bT,bT,bF,bF,bF,bF,bF,bF,bF,bF,bF,bF,bF,bF,bF,bF]) (by kernel_rfl) ?_;refine wpAny_take (i:=2) (oi:=⟨some 127,_,_,_,_,_⟩) (v:=?_) rfl (by kernel_rfl) (by kernel_rfl) (by kernel_rfl) (λ_ _ _ h=>h) (Or.inl ⟨by rfl,?_⟩) ?_;rotate_left 1
   ·(intro W9;go_simp;try with_reducible rfl)
   conv=>arg 7;simp only[Act.put,ax,aw,ay]
   refine dt (l':=#[bT,bT,bT,bF,bF,bF,bF,bF,bF,bF,bF,bF,bF,bF,bF,bF]) (by kernel_rfl) ?_;refine wpAny_take (i:=3) (oi:=⟨some 128,_,_,_,_,_⟩) (v:=?_) rfl (by kernel_rfl) (by kernel_rfl) (by kernel_rfl) (λ_ _ _ h=>h) (Or.inl ⟨by rfl,?_⟩) ?_;rotate_left 1
   ·(intro W9;go_simp;try with_reducible rfl)
   conv=>arg 7;simp only[Act.put,ax,aw,ay]
   refine dt (l':=#[bT,bT,bT,bT,bF,bF,bF,bF,bF,bF,bF,bF,bF,bF,bF,bF]) (by kernel_rfl) ?_;refine wpAny_take (i:=4) (oi:=⟨some 129,_,_,_,_,_⟩) (v:=?_) rfl (by kernel_rfl) (by kernel_rfl) (by kernel_rfl) (λ_ _ _ h=>h) (Or.inl ⟨by rfl,?_⟩) ?_;rotate_left 1
   ·(intro W9;go_simp;try with_reducible rfl)
   conv=>arg 7;simp only[Act.put,ax,aw,ay]
   refine dt (l':=#[bT,bT,bT,bT,bT,bF,bF,bF,bF,bF,bF,bF,bF,bF,bF,bF]) (by kernel_rfl) ?_;refine wpAny_take (i:=7) (oi:=⟨some 132,_,_,_,_,_⟩) (v:=?_) rfl (by kernel_rfl) (by kernel_rfl) (by kernel_rfl) (λ_ _ _ h=>h) (Or.inl ⟨by rfl,?_⟩) ?_;rotate_left 1
   ·(intro W9;go_simp;try with_reducible rfl)
   conv=>arg 7;simp only[Act.put,ax,aw,ay]
   refine dt (l':=#[bT,bT,bT,bT,bT,bF,bF,bT,bF,bF,bF,bF,bF,bF,bF,bF]) (by kernel_rfl) ?_;refine wpAny_take (i:=8) (oi:=⟨some 133,_,_,_,_,_⟩) (v:=?_) rfl (by kernel_rfl) (by kernel_rfl) (by kernel_rfl) (λ_ _ _ h=>h) (Or.inl ⟨by rfl,?_⟩) ?_;rotate_left 1
   ·(intro W9;go_simp;try with_reducible rfl)
   conv=>arg 7;simp only[Act.put,ax,aw,ay]
   refine dt (l':=#[bT,bT,bT,bT,bT,bF,bF,bT,bT,bF,bF,bF,bF,bF,bF,bF]) (by kernel_rfl) ?_;refine wpAny_take (i:=9) (oi:=⟨some 134,_,_,_,_,_⟩) (v:=?_) rfl (by kernel_rfl) (by kernel_rfl) (by kernel_rfl) (λ_ _ _ h=>h) (Or.inl ⟨by rfl,?_⟩) ?_;rotate_left 1
   ·(intro W9;go_simp;try with_reducible rfl)
   conv=>arg 7;simp only[Act.put,ax,aw,ay]
   refine dt (l':=#[bT,bT,bT,bT,bT,bF,bF,bT,bT,bT,bF,bF,bF,bF,bF,bF]) (by kernel_rfl) ?_;refine wpAny_take (i:=10) (oi:=⟨some 135,_,_,_,_,_⟩) (v:=?_) rfl (by kernel_rfl) (by kernel_rfl) (by kernel_rfl) (λ_ _ _ h=>h) (Or.inl ⟨by rfl,?_⟩) ?_;rotate_left 1
   ·(intro W9;go_simp;try with_reducible rfl)
   conv=>arg 7;simp only[Act.put,ax,aw,ay]
   refine dt (l':=#[bT,bT,bT,bT,bT,bF,bF,bT,bT,bT,bT,bF,bF,bF,bF,bF]) (by kernel_rfl) ?_;refine wpAny_of_held (S:=λW=>W.cell? ⟨dC,q*3+1,none⟩=some (Yq ⟨yt.toArray⟩)/\W.cell? ⟨dC,q*3+2,none⟩=some (Yp Yv yi)) _ _ _ _ ?_;refine wpAnyH_take (i:=5) (oi:=⟨some 130,_,_,_,_,_⟩) (v:=?_) rfl (by kernel_rfl) (by kernel_rfl) (by kernel_rfl) (λ_ _ _ h=>h) (Or.inl ⟨by rfl,?_⟩) ?_ ?_;rotate_left 1
   ·(intro W9 mg;have OA:W9.cell? ⟨dC,q*3+1,none⟩=some (Yq ⟨yt.toArray⟩):=mg.1;have OB:W9.cell? ⟨dC,q*3+2,none⟩=some (Yp Yv yi):=mg.2;clear mg;go_simp;try with_reducible rfl)
   ·first|assumption|exact⟨e0,e1⟩|(refine⟨?_,?_⟩<;>(go_simp;done))
   conv=>arg 8;simp only[Act.put,ax,aw,ay]
   refine kz (l':=#[bT,bT,bT,bT,bT,bT,bF,bT,bT,bT,bT,bF,bF,bF,bF,bF]) (by kernel_rfl) ?_;refine wpAnyH_take (i:=11) (oi:=⟨some 136,_,_,_,_,_⟩) (v:=?_) rfl (by kernel_rfl) (by kernel_rfl) (by kernel_rfl) (λ_ _ _ h=>h) (Or.inl ⟨by rfl,?_⟩) ?_ ?_;rotate_left 1
   ·(intro W9 mg;have OA:W9.cell? ⟨dC,q*3+1,none⟩=some (Yq ⟨yt.toArray⟩):=mg.1;have OB:W9.cell? ⟨dC,q*3+2,none⟩=some (Yp Yv yi):=mg.2;clear mg;go_simp;try with_reducible rfl)
   ·first|assumption|exact⟨e0,e1⟩|(refine⟨?_,?_⟩<;>(go_simp;done))
   conv=>arg 8;simp only[Act.put,ax,aw,ay]
   refine kz (l':=#[bT,bT,bT,bT,bT,bT,bF,bT,bT,bT,bT,bT,bF,bF,bF,bF]) (by kernel_rfl) ?_;refine wpAnyH_ready (rs:=[6]) (by kernel_rfl) (by simp) ?_;refine AllReadyH.cons (o:=⟨some 131,_,_,_,_,_⟩) rfl (λK hK=>?_) AllReadyH.nil;refine vI (o:=⟨some 131,_,_,_,_,_⟩) rfl 105 #[Yq ⟨yt.toArray⟩] _ (kQ yt _ (by omega)) ?_ ?_
   ·go_simp
   rintro e W2 ⟨rfl,hu⟩;refine⟨_,rfl,?_⟩;have hu2:ac wr W2:=(ac.refl wr).drew.trans hu;have e0:=(hu2.cell (p:=⟨dC,q*3+1,none⟩) ju).trans p1;have e1:=(hu2.cell (p:=⟨dC,q*3+2,none⟩) ju).trans p2;haveI:af dC W2:=af.of (Nat.lt_of_lt_of_le ju hu2.size);have aX:=aa hu2;clear hu hu2;refine hK _ _ ⟨?_,?_⟩
   ·clear hK K;first|assumption|exact⟨e0,e1⟩|(refine⟨?_,?_⟩<;>(go_simp;done))
   clear hK K
   conv=>arg 8;simp only[Act.put,ax,aw,ay]
   refine kz (l':=#[bT,bT,bT,bT,bT,bT,bT,bT,bT,bT,bT,bT,bF,bF,bF,bF]) (by kernel_rfl) ?_;refine wpAnyH_take (i:=12) (oi:=⟨some 137,_,_,_,_,_⟩) (v:=?_) rfl (by kernel_rfl) (by kernel_rfl) (by kernel_rfl) (λ_ _ _ h=>h) (Or.inl ⟨by rfl,?_⟩) ?_ ?_;rotate_left 1
   ·(intro W9 mg;have OA:W9.cell? ⟨dC,q*3+1,none⟩=some (Yq ⟨yt.toArray⟩):=mg.1;have OB:W9.cell? ⟨dC,q*3+2,none⟩=some (Yp Yv yi):=mg.2;clear mg;go_simp;try with_reducible rfl)
   ·first|assumption|exact⟨e0,e1⟩|(refine⟨?_,?_⟩<;>(go_simp;done))
   conv=>arg 8;simp only[Act.put,ax,aw,ay]
   refine kz (l':=#[bT,bT,bT,bT,bT,bT,bT,bT,bT,bT,bT,bT,bT,bF,bF,bF]) (by kernel_rfl) ?_;refine wpAnyH_ready (rs:=[13]) (by kernel_rfl) (by simp) ?_;refine AllReadyH.cons (o:=⟨some 138,_,_,_,_,_⟩) rfl (λK hK=>?_) AllReadyH.nil;go_simp;have e0:(W2.alloc (Yw #[Yp Yv 3,Yq ⟨(St.nameOf yt).toArray⟩,Yp Yv yi] 36)).cell? ⟨dC,q*3+1,none⟩=some (Yq ⟨yt.toArray⟩):=((aX.out.alloc _).cell (p:=⟨dC,q*3+1,none⟩) ju).trans p1;have e1:(W2.alloc (Yw #[Yp Yv 3,Yq ⟨(St.nameOf yt).toArray⟩,Yp Yv yi] 36)).cell? ⟨dC,q*3+2,none⟩=some (Yp Yv yi):=((aX.out.alloc _).cell (p:=⟨dC,q*3+2,none⟩) ju).trans p2;refine hK _ _ ⟨?_,?_⟩
   ·clear hK K;first|assumption|exact⟨e0,e1⟩|(refine⟨?_,?_⟩<;>(go_simp;done))
   clear hK K
   conv=>arg 8;simp only[Act.put,ax,aw,ay]
   refine kz (l':=#[bT,bT,bT,bT,bT,bT,bT,bT,bT,bT,bT,bT,bT,bT,bF,bF]) (by kernel_rfl) ?_;refine wpAnyH_ready (rs:=[14]) (by kernel_rfl) (by simp) ?_;refine AllReadyH.cons (o:=⟨some 139,_,_,_,_,_⟩) rfl (λK hK=>?_) AllReadyH.nil;refine uP (o:=⟨some 139,_,_,_,_,_⟩) rfl _ _ rfl w.1.size (Yr A9 f.length c9) f.length f rfl (aH (aX.out.alloc _) HO.out) ⟨W2.1.size,0,none⟩ 1 1 [(3,St.nameOf yt,yi)] rfl (ej _ _ _ _ _ (by simp) (by simp) (by simp) (by simp)) rfl (by omega) (by have:=HK.out.size;have:=aX.out.size;simp;omega) ?_;intro v' w6 qd xW hfr;have e0:=(dD xW (p:=⟨dC,q*3+1,none⟩) (by have:=aX.out.size;simp;omega) (λe=>Co e.symm)).trans (((aX.out.alloc _).cell (p:=⟨dC,q*3+1,none⟩) ju).trans p1);have e1:=(dD xW (p:=⟨dC,q*3+2,none⟩) (by have:=aX.out.size;simp;omega) (λe=>Co e.symm)).trans (((aX.out.alloc _).cell (p:=⟨dC,q*3+2,none⟩) ju).trans p2);have hrow:∀x,(Yr A9 f.length c9).ownBlock=some x->w.1.size<=x:=λx hx=>aD HO.out x hx
   have tE:=aa qd;have sU:=aa ((aH (aX.out.alloc _) HP.out).kept xW (.inr (λe=>Co e.symm)));have qT:=aa ((HG.out.ai (aX.out.alloc _)).gb xW (λx e=>Nat.le_trans hB (hrow x e)));have xh:=aa (aN (bO HK.out (aX.out.alloc _)) xW (λx e=>.inr (hrow x e)))
   have Tl:v'.ownBlock=none\/v'.ownBlock≠some dC:=by
    rcases hfr with h|h
    ·rw[h];exact .inr Co
    cases hv:v'.ownBlock with
    | none=>exact .inl rfl
    | some x=>exact .inr (λe=>by have u1:=h x hv;have u2:=aX.out.size;simp at u1 e;omega)
   clear qd xW hfr hrow HO HP HG HK;refine hK _ _ ⟨?_,?_⟩
   ·clear hK K;first|assumption|exact⟨e0,e1⟩|(refine⟨?_,?_⟩<;>(go_simp;done))
   clear hK K
   conv=>arg 8;simp only[Act.put,ax,aw,ay]
   refine kz (l':=#[bT,bT,bT,bT,bT,bT,bT,bT,bT,bT,bT,bT,bT,bT,bT,bF]) (by kernel_rfl) ?_;refine wpAnyH_take (i:=15) (oi:=⟨some 9,_,_,_,_,_⟩) (v:=?_) rfl (by kernel_rfl) (by kernel_rfl) (by kernel_rfl) (λ_ _ _ h=>h) (Or.inl ⟨by rfl,?_⟩) ?_ ?_;rotate_left 1
   ·(intro W9 mg;have OA:W9.cell? ⟨dC,q*3+1,none⟩=some (Yq ⟨yt.toArray⟩):=mg.1;have OB:W9.cell? ⟨dC,q*3+2,none⟩=some (Yp Yv yi):=mg.2;clear mg;go_simp;try with_reducible rfl)
   ·first|assumption|exact⟨e0,e1⟩|(refine⟨?_,?_⟩<;>(go_simp;done))
   conv=>arg 8;simp only[Act.put,ax,aw,ay]
   refine kz (l':=#[bT,bT,bT,bT,bT,bT,bT,bT,bT,bT,bT,bT,bT,bT,bT,bT]) (by kernel_rfl) ?_;refine wpAnyH_done (by kernel_rfl) ?_ _;go_wp2;exact⟨⟨q,_,f++[(3,St.nameOf yt,yi)],rfl,rfl,by omega,by simpa using tE.out,sU.out,Tl,CC.out,by simp;omega,by rw[cA];show aY f+(St.nameOf yt).length+5*q<=_;omega,qT.out,xh.out⟩,by first|(simp[intOf];done)|(simp[intOf];omega)⟩
theorem Kc(B g P n:Nat)(w:YA)(hG:bp w B g P)(hP:P<=100000)(hn:n<=100) :
  Calls Tryz.prog 66 #[Yt (some ⟨g,0,none⟩),Yp Yv n,Ys true,Ys true] w (Cu w B g P n):=Kd true B g P n w hG hP hn
end
