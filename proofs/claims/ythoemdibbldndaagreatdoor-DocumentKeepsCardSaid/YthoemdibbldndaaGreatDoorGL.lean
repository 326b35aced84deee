/- The contract of the maker Fragment without tags: joined items of texts and placeholders. -/
import Derived.Test.YthoemdibbldndaaGreatDoorGF
import Derived.LoopN
import Derived.Test.YthoemdibbldndaaGreatDoorRdsA
import Derived.Test.YthoemdibbldndaaGreatDoorGH
import Derived.BigQuiet
import Derived.IntWalk
import Derived.Deep.RegionHeld3
import Derived.OrdersHeld
set_option linter.all false
set_option maxHeartbeats 0
set_option maxRecDepth 20000
open Go.Value renaming int->Yh,string->Yi,slice->Yj,bool->Yk,pointer->Yl
open Go.IntKind renaming i64->Yn
open Go.Obj renaming cells->Yo
open Go.Ending renaming returned->Yp
open Go renaming World->Ys
namespace Go.Proofs.YthoemdibbldndaaGreatDoor
open Go.RowKit
section
def Ge(x:St.It):Prop:=x.2.2=0/\(x.1=1\/(x.1=5/\St.aE x.2.1=true))
def uw(f:List St.It):Prop:=St.Nm f/\∀x∈f,Ge x
theorem LN:uw []:=⟨St.nQ,λ_ h=>by cases h⟩
theorem LM{f:List St.It}{x:St.It}(h:uw f)(hx:Ge x):uw (St.aL f x):=by
 refine⟨St.eH h.1 x,λy hy=>?_⟩;rcases St.cT f with rfl|⟨a,b,rfl⟩
 ·rw[St.eB]at hy
  split at hy
  ·split at hy
   ·cases hy
   simp at hy;subst hy;exact⟨rfl,.inl rfl⟩
  simp at hy;subst hy;exact hx
 rw[St.cU]at hy
 split at hy
 ·split at hy
  ·exact h.2 y hy
  split at hy
  ·rcases List.mem_append.1 hy with hy|hy
   ·exact h.2 y (by simp[hy])
   simp at hy;subst hy;exact⟨rfl,.inl rfl⟩
  rcases List.mem_append.1 hy with hy|hy
  ·exact h.2 y hy
  simp at hy;subst hy;exact⟨rfl,.inl rfl⟩
 rcases List.mem_append.1 hy with hy|hy
 ·exact h.2 y hy
 simp at hy;subst hy;exact hx
def Nh(w:Ys)(B g P n:Nat)(s9 db s12:Value)(wr:Ys):Prop:=∃(i k:Nat) (f:List St.It),db=Yj none 0 0/\s12=Yh Yn i/\k+i<=n/\wr.ownsRow w.1.size 36 3 s9 f.length (ak f)/\uw f/\f.length<=k/\aV f<=18*k/\bp wr B g (P+1+9*k)/\w.grownBy wr (some g)
def Of(w:Ys)(B g P n:Nat)(e:Ending)(w':Ys):Prop:=∃(v:Value) (f:List St.It),e=Yp v/\w'.ownsRow w.1.size 36 3 v f.length (ak f)/\uw f/\f.length<=n/\aV f<=18*n/\bp w' B g (P+1+9*n)/\w.grownBy w' (some g)
theorem CI(B g P n:Nat)(w:Ys)(hG:bp w B g P)(hP:P<=100000)(hn:n<=100) :
  Calls Tryz.prog 66 #[Yl (some ⟨g,0,none⟩),Yh Yn n,Yk false,Yk true] w (Of w B g P n):=by
 have HG:=aa hG;obtain⟨ka,hB⟩:=hG.lt;clear hG;go_enter Tryz.func66,Tryz.ntmps66;go_wp2_with fail;refine(bR B g P ((n:Int)+1) _ HG.out (by omega) (by omega) (by omega)).mono ?_;rintro e w2 ⟨r,rfl,hr,hG2,hk⟩;have HG2:=aa hG2;have fX:=aa hk;clear hG2 hk HG;go_wp2_with fail;go_loopw [9,10,12] (λs9 db s12 wr=>Nh w B g P n s9 db s12 wr) (λ_ _ s12 _=>(intOf s12).toNat)
 case atStart=>exact⟨r,0,[],rfl,rfl,by omega,World.ownsRow_nil _ _ _ _,LN,by simp,by simp[aV],HG2.out,fX.out⟩
 case round=>
  clear HG2 fX hr;obtain⟨i,k,f,rfl,rfl,hki,hown,fP,hfl,hft,hG,hk⟩:=hrel;have HG:=aa hG;have HK:=aa hk;have HO:=aa hown;have pG:=aa fP;clear hG hk hown fP
  by_cases hi:0<i
  ·have z:(0:Int)<(i:Int):=by omega
   obtain⟨wo,rfl⟩:∃wo:Ys,wo=wr:=⟨_,rfl⟩;go_wp2_with fail;refine(vH B g _ 3 _ HG.out (by omega) (by omega)).mono ?_;rintro e w3 ⟨t,rfl,hts,hG3,hk3⟩;have ix:=aa hG3;have fH:=aa (aO HK.out hk3 (λ_ e=>.inl e));have fo:=aa (eA HO.out hk3 (by omega));clear hG3 hk3 HG HK HO;have Rv:=fH.out.size;obtain⟨A9,c9,rfl,_,_,hA9⟩:=aR fo.out;have eS:∀x,(Yj A9 f.length c9).ownBlock=some x->x<w3.1.size:=λx hx=>(fo.out.lt x hx).2
   have kQ:∀(W:Ys) (b:Nat) (x:St.It),x.2.2=0->aH W A9 f->aH W (some ⟨b,0,none⟩) [x]->aV (f++[x])<=4611686018427387904->Calls Tryz.prog 44 #[Yj A9 f.length c9,Yj (some ⟨b,0,none⟩) 1 1] W λe w'=>∃v,e=Yp v/\w'.ownsRow W.1.size 36 3 v (St.aL f x).length (ak (St.aL f x))/\ac W w':=by
    intro W b x hx h h' ht;have:=gZ A9 f.length c9 f (some ⟨b,0,none⟩) 1 1 [x] W rfl rfl (λe=>by have:=hA9 e;omega) (λe=>by cases e) h h' (by omega) ht
    rw[St.eh,pG.out.1]at this;exact this
   have ee:=aa kQ;clear kQ
   have fin:∀(x:St.It) (v7:Value) (w7:Ys),Ge x->x.2.1.length<=18->(x.1=1\/x.1=5)->w7.ownsRow w.1.size 36 3 v7 (St.aL f x).length (ak (St.aL f x))->bp w7 B g (P+1+9*(k+1))->w.grownBy w7 (some g)->Nh w B g P n v7 (Yj none 0 0) (Yh Yn ((i:Int)-1)) w7:=by
    intro x v7 w7 hg hx _ ho hG hk;have h1:=(St.gL f x).1;have h2:=gW f x;exact⟨i-1,k+1,St.aL f x,rfl,congrArg (Yh Yn) (by omega),by omega,ho,LM pG.out hg,by omega,by omega,hG,hk⟩
   have gX:=aa fin;clear fin;have Fp:g<w3.1.size:=by omega
   go_wp2_with fail;refine(bR B g _ 8 _ (ix.out.ai ((ac.refl _).alloc _)) (by omega) (by omega) (by omega)).mono ?_;rintro e w4 ⟨r,rfl,hr,hG4,hk4⟩;have eL:=aa hG4;have dm:=aa (aO (bK fH.out ((ac.refl _).alloc (Yo #[Yh Yn 1,Yi t,Yh Yn 0] 36))) hk4 (λ_ e=>.inl e));have iA:=aa (eA (fo.out.alloc (Yo #[Yh Yn 1,Yi t,Yh Yn 0] 36)) hk4 (by omega));have hb4:w4.1[w3.1.size]?=some (Yo #[Yh Yn 1,Yi t,Yh Yn 0] 36 (0,0)):=(hk4.block w3.1.size (by simp) (by simp;omega)).trans (heap_alloc_new w3 _);have nV:w3.1.size<w4.1.size:=ae hb4;have d0:w4.cell? ⟨w3.1.size,0,none⟩=some (Yh Yn 1):=aj hb4 0;have d1:w4.cell? ⟨w3.1.size,1,none⟩=some (Yi t):=aj hb4 1;have d2:w4.cell? ⟨w3.1.size,2,none⟩=some (Yh Yn 0):=aj hb4 2;haveI:af w3.1.size w4:=af.of nV;have pf:r<8:=by omega
   clear hG4 hk4 ix fH fo hr;rcases(show r=0\/r=1\/r=2\/r=3\/r=4\/r=5\/r=6\/r=7 by omega)with h|h|h|h|h|h|h|h
   ·subst h;clear pf d0 d1 d2;go_wp2_with fail;refine(bR B g _ 3 _ (eL.out.ai ((ac.refl _).alloc (Yo #[Yi ⟨#[110]⟩,Yi ⟨#[110,97,109,101]⟩,Yi ⟨#[120,49]⟩] 9))) (by omega) (by omega) (by omega)).mono ?_;rintro e w5 ⟨q,rfl,hq,fZ,hk5⟩
    obtain⟨u,hu,kg,hun⟩:∃u:ByteArray,(#[Yi ⟨#[110]⟩,Yi ⟨#[110,97,109,101]⟩,Yi ⟨#[120,49]⟩]:Array Value)[q]?=some (Yi u)/\u.size<=4/\St.aE u.1.1=true:=by
     rcases(show q=0\/q=1\/q=2 by omega)with h|h|h<;>subst h<;>exact⟨_,rfl,by decide,by decide⟩
    have hcell:=gN w4 w5 _ _ B g hk5 ka (by omega) q _ hu;have jO:=aa fZ;have oF:=aa (aO (bK dm.out ((ac.refl _).alloc (Yo #[Yi ⟨#[110]⟩,Yi ⟨#[110,97,109,101]⟩,Yi ⟨#[120,49]⟩] 9))) hk5 (λ_ e=>.inl e));have eW:=aa (eA (iA.out.alloc (Yo #[Yi ⟨#[110]⟩,Yi ⟨#[110,97,109,101]⟩,Yi ⟨#[120,49]⟩] 9)) hk5 (by omega));have cA:w5.1[w3.1.size]?=some (Yo #[Yh Yn 1,Yi t,Yh Yn 0] 36 (0,0)):=(hk5.block w3.1.size (by simp;omega) (by simp;omega)).trans ((((ac.refl w4).alloc _).below.block w3.1.size nV).trans hb4);have f0:w5.frozen? ⟨w3.1.size,0,none⟩=false:=bz cA 0;have f1:w5.frozen? ⟨w3.1.size,1,none⟩=false:=bz cA 1;have f2:w5.frozen? ⟨w3.1.size,2,none⟩=false:=bz cA 2;have g0:w5.cell? ⟨w3.1.size,0,none⟩=some (Yh Yn 1):=aj cA 0;have g1:w5.cell? ⟨w3.1.size,1,none⟩=some (Yi t):=aj cA 1;have g2:w5.cell? ⟨w3.1.size,2,none⟩=some (Yh Yn 0):=aj cA 2;haveI:af w3.1.size w5:=af.of (ae cA);haveI:af w4.1.size w5:=af.of (cx _ _ hcell);have N7:q<3:=by omega
    have hob:(Yj A9 f.length c9).ownBlock≠some w3.1.size:=λe=>by have:=eS _ e;omega
    have hkey:∀W,W=((w5.setCell ⟨w3.1.size,0,none⟩ (Yh Yn 5)).setCell ⟨w3.1.size,1,none⟩ (Yi u)).setCell ⟨w3.1.size,2,none⟩ (Yh Yn 0)->W.ownsRow w.1.size 36 3 (Yj A9 f.length c9) f.length (ak f)/\bp W B g (P+1+9*(k+1))/\w.grownBy W (some g):=by
     intro W hW;subst hW;refine⟨aD (aD (aD eW.out hob) hob) hob,?_,bQ (bQ (bQ oF.out _ _ (.inr (by show w.1.size<=w3.1.size;omega))) _ _ (.inr (by show w.1.size<=w3.1.size;omega))) _ _ (.inr (by show w.1.size<=w3.1.size;omega))⟩;have hBb:∀x,some w3.1.size=some x->B<=x:=λx e=>by cases e;omega
     exact(((jO.out.gb (cJ w5 ⟨w3.1.size,0,none⟩ _) hBb).gb (cJ _ ⟨w3.1.size,1,none⟩ _) hBb).gb (cJ _ ⟨w3.1.size,2,none⟩ _) hBb).le (by omega)
    have HKEY:=aa (hkey _ rfl);have yI:=HKEY.out.2.1.lt.2;clear fZ hk5 eL dm iA hkey hu hq;go_wp2_with fail;refine(ee.out _ _ (5,u.1.1,0) rfl ?_ ?_ ?_).mono ?_
    ·exact(aW HKEY.out.1 rfl).ai ((ac.refl _).alloc _)
    ·rw[<-bn u];exact fA _ _ _ _ (by simp) (by rw[World.cell?_alloc_at _ _ _ _ (by simp)];rfl) (by rw[World.cell?_alloc_at _ _ _ _ (by simp)];rfl) (by rw[World.cell?_alloc_at _ _ _ _ (by simp)];rfl)
    ·rw[cw];simp;omega
    rintro e w7 ⟨v7,rfl,cW,bM⟩;have hrel:=gX.out (5,u.1.1,0) v7 w7 ⟨rfl,.inr ⟨rfl,hun⟩⟩ (by simp;omega) (.inr rfl) (cH cW (by have:=HKEY.out.2.2.size;simp at this |-;omega)) ((HKEY.out.2.1.ai ((ac.refl _).alloc _)).ai bM) (bK HKEY.out.2.2 (((ac.refl _).alloc _).trans bM));have br:=aa hrel;clear hrel cW bM hcell;go_wp2;exact⟨br.out,by simp[intOf];omega⟩
   ·subst h;clear pf d0 d1 d2;go_wp2_with fail;refine(bR B g _ 3 _ (eL.out.ai ((ac.refl _).alloc (Yo #[Yi ⟨#[110]⟩,Yi ⟨#[110,97,109,101]⟩,Yi ⟨#[120,49]⟩] 9))) (by omega) (by omega) (by omega)).mono ?_;rintro e w5 ⟨q,rfl,hq,fZ,hk5⟩
    obtain⟨u,hu,kg,hun⟩:∃u:ByteArray,(#[Yi ⟨#[110]⟩,Yi ⟨#[110,97,109,101]⟩,Yi ⟨#[120,49]⟩]:Array Value)[q]?=some (Yi u)/\u.size<=4/\St.aE u.1.1=true:=by
     rcases(show q=0\/q=1\/q=2 by omega)with h|h|h<;>subst h<;>exact⟨_,rfl,by decide,by decide⟩
    have hcell:=gN w4 w5 _ _ B g hk5 ka (by omega) q _ hu;have jO:=aa fZ;have oF:=aa (aO (bK dm.out ((ac.refl _).alloc (Yo #[Yi ⟨#[110]⟩,Yi ⟨#[110,97,109,101]⟩,Yi ⟨#[120,49]⟩] 9))) hk5 (λ_ e=>.inl e));have eW:=aa (eA (iA.out.alloc (Yo #[Yi ⟨#[110]⟩,Yi ⟨#[110,97,109,101]⟩,Yi ⟨#[120,49]⟩] 9)) hk5 (by omega));have cA:w5.1[w3.1.size]?=some (Yo #[Yh Yn 1,Yi t,Yh Yn 0] 36 (0,0)):=(hk5.block w3.1.size (by simp;omega) (by simp;omega)).trans ((((ac.refl w4).alloc _).below.block w3.1.size nV).trans hb4);have f0:w5.frozen? ⟨w3.1.size,0,none⟩=false:=bz cA 0;have f1:w5.frozen? ⟨w3.1.size,1,none⟩=false:=bz cA 1;have f2:w5.frozen? ⟨w3.1.size,2,none⟩=false:=bz cA 2;have g0:w5.cell? ⟨w3.1.size,0,none⟩=some (Yh Yn 1):=aj cA 0;have g1:w5.cell? ⟨w3.1.size,1,none⟩=some (Yi t):=aj cA 1;have g2:w5.cell? ⟨w3.1.size,2,none⟩=some (Yh Yn 0):=aj cA 2;haveI:af w3.1.size w5:=af.of (ae cA);haveI:af w4.1.size w5:=af.of (cx _ _ hcell);have N7:q<3:=by omega
    have hob:(Yj A9 f.length c9).ownBlock≠some w3.1.size:=λe=>by have:=eS _ e;omega
    have hkey:∀W,W=((w5.setCell ⟨w3.1.size,0,none⟩ (Yh Yn 5)).setCell ⟨w3.1.size,1,none⟩ (Yi u)).setCell ⟨w3.1.size,2,none⟩ (Yh Yn 0)->W.ownsRow w.1.size 36 3 (Yj A9 f.length c9) f.length (ak f)/\bp W B g (P+1+9*(k+1))/\w.grownBy W (some g):=by
     intro W hW;subst hW;refine⟨aD (aD (aD eW.out hob) hob) hob,?_,bQ (bQ (bQ oF.out _ _ (.inr (by show w.1.size<=w3.1.size;omega))) _ _ (.inr (by show w.1.size<=w3.1.size;omega))) _ _ (.inr (by show w.1.size<=w3.1.size;omega))⟩;have hBb:∀x,some w3.1.size=some x->B<=x:=λx e=>by cases e;omega
     exact(((jO.out.gb (cJ w5 ⟨w3.1.size,0,none⟩ _) hBb).gb (cJ _ ⟨w3.1.size,1,none⟩ _) hBb).gb (cJ _ ⟨w3.1.size,2,none⟩ _) hBb).le (by omega)
    have HKEY:=aa (hkey _ rfl);have yI:=HKEY.out.2.1.lt.2;clear fZ hk5 eL dm iA hkey hu hq;go_wp2_with fail;refine(ee.out _ _ (5,u.1.1,0) rfl ?_ ?_ ?_).mono ?_
    ·exact(aW HKEY.out.1 rfl).ai ((ac.refl _).alloc _)
    ·rw[<-bn u];exact fA _ _ _ _ (by simp) (by rw[World.cell?_alloc_at _ _ _ _ (by simp)];rfl) (by rw[World.cell?_alloc_at _ _ _ _ (by simp)];rfl) (by rw[World.cell?_alloc_at _ _ _ _ (by simp)];rfl)
    ·rw[cw];simp;omega
    rintro e w7 ⟨v7,rfl,cW,bM⟩;have hrel:=gX.out (5,u.1.1,0) v7 w7 ⟨rfl,.inr ⟨rfl,hun⟩⟩ (by simp;omega) (.inr rfl) (cH cW (by have:=HKEY.out.2.2.size;simp at this |-;omega)) ((HKEY.out.2.1.ai ((ac.refl _).alloc _)).ai bM) (bK HKEY.out.2.2 (((ac.refl _).alloc _).trans bM));have br:=aa hrel;clear hrel cW bM hcell;go_wp2;exact⟨br.out,by simp[intOf];omega⟩
   ·subst h;clear pf hb4;go_wp2_with fail;refine(ee.out _ _ (1,t.1.1,0) rfl ?_ ?_ ?_).mono ?_
    ·exact(aW iA.out rfl).ai ((ac.refl _).alloc _)
    ·rw[<-bn t];exact fA _ _ _ _ (by simp) (by simp) (by simp) (by simp)
    ·rw[cw];simp;omega
    rintro e w7 ⟨v7,rfl,cW,bM⟩;have hrel:=gX.out (1,t.1.1,0) v7 w7 ⟨rfl,.inl rfl⟩ (by simp;omega) (.inl rfl) (cH cW (by have:=dm.out.size;simp at this |-;omega)) (((eL.out.ai ((ac.refl _).alloc _)).ai bM).le (by omega)) (bK dm.out (((ac.refl _).alloc _).trans bM));have br:=aa hrel;clear hrel cW bM d0 d1 d2;go_wp2;exact⟨br.out,by simp[intOf];omega⟩
   ·subst h;clear pf hb4;go_wp2_with fail;refine(ee.out _ _ (1,t.1.1,0) rfl ?_ ?_ ?_).mono ?_
    ·exact(aW iA.out rfl).ai ((ac.refl _).alloc _)
    ·rw[<-bn t];exact fA _ _ _ _ (by simp) (by simp) (by simp) (by simp)
    ·rw[cw];simp;omega
    rintro e w7 ⟨v7,rfl,cW,bM⟩;have hrel:=gX.out (1,t.1.1,0) v7 w7 ⟨rfl,.inl rfl⟩ (by simp;omega) (.inl rfl) (cH cW (by have:=dm.out.size;simp at this |-;omega)) (((eL.out.ai ((ac.refl _).alloc _)).ai bM).le (by omega)) (bK dm.out (((ac.refl _).alloc _).trans bM));have br:=aa hrel;clear hrel cW bM d0 d1 d2;go_wp2;exact⟨br.out,by simp[intOf];omega⟩
   ·subst h;clear pf hb4;go_wp2_with fail;refine(ee.out _ _ (1,t.1.1,0) rfl ?_ ?_ ?_).mono ?_
    ·exact(aW iA.out rfl).ai ((ac.refl _).alloc _)
    ·rw[<-bn t];exact fA _ _ _ _ (by simp) (by simp) (by simp) (by simp)
    ·rw[cw];simp;omega
    rintro e w7 ⟨v7,rfl,cW,bM⟩;have hrel:=gX.out (1,t.1.1,0) v7 w7 ⟨rfl,.inl rfl⟩ (by simp;omega) (.inl rfl) (cH cW (by have:=dm.out.size;simp at this |-;omega)) (((eL.out.ai ((ac.refl _).alloc _)).ai bM).le (by omega)) (bK dm.out (((ac.refl _).alloc _).trans bM));have br:=aa hrel;clear hrel cW bM d0 d1 d2;go_wp2;exact⟨br.out,by simp[intOf];omega⟩
   ·subst h;clear pf hb4;go_wp2_with fail;refine(ee.out _ _ (1,t.1.1,0) rfl ?_ ?_ ?_).mono ?_
    ·exact(aW iA.out rfl).ai ((ac.refl _).alloc _)
    ·rw[<-bn t];exact fA _ _ _ _ (by simp) (by simp) (by simp) (by simp)
    ·rw[cw];simp;omega
    rintro e w7 ⟨v7,rfl,cW,bM⟩;have hrel:=gX.out (1,t.1.1,0) v7 w7 ⟨rfl,.inl rfl⟩ (by simp;omega) (.inl rfl) (cH cW (by have:=dm.out.size;simp at this |-;omega)) (((eL.out.ai ((ac.refl _).alloc _)).ai bM).le (by omega)) (bK dm.out (((ac.refl _).alloc _).trans bM));have br:=aa hrel;clear hrel cW bM d0 d1 d2;go_wp2;exact⟨br.out,by simp[intOf];omega⟩
   ·subst h;clear pf hb4;go_wp2_with fail;refine(ee.out _ _ (1,t.1.1,0) rfl ?_ ?_ ?_).mono ?_
    ·exact(aW iA.out rfl).ai ((ac.refl _).alloc _)
    ·rw[<-bn t];exact fA _ _ _ _ (by simp) (by simp) (by simp) (by simp)
    ·rw[cw];simp;omega
    rintro e w7 ⟨v7,rfl,cW,bM⟩;have hrel:=gX.out (1,t.1.1,0) v7 w7 ⟨rfl,.inl rfl⟩ (by simp;omega) (.inl rfl) (cH cW (by have:=dm.out.size;simp at this |-;omega)) (((eL.out.ai ((ac.refl _).alloc _)).ai bM).le (by omega)) (bK dm.out (((ac.refl _).alloc _).trans bM));have br:=aa hrel;clear hrel cW bM d0 d1 d2;go_wp2;exact⟨br.out,by simp[intOf];omega⟩
   subst h;clear pf hb4;go_wp2_with fail;refine(ee.out _ _ (1,t.1.1,0) rfl ?_ ?_ ?_).mono ?_
   ·exact(aW iA.out rfl).ai ((ac.refl _).alloc _)
   ·rw[<-bn t];exact fA _ _ _ _ (by simp) (by simp) (by simp) (by simp)
   ·rw[cw];simp;omega
   rintro e w7 ⟨v7,rfl,cW,bM⟩;have hrel:=gX.out (1,t.1.1,0) v7 w7 ⟨rfl,.inl rfl⟩ (by simp;omega) (.inl rfl) (cH cW (by have:=dm.out.size;simp at this |-;omega)) (((eL.out.ai ((ac.refl _).alloc _)).ai bM).le (by omega)) (bK dm.out (((ac.refl _).alloc _).trans bM));have br:=aa hrel;clear hrel cW bM d0 d1 d2;go_wp2;exact⟨br.out,by simp[intOf];omega⟩
  have z:¬(0:Int)<(i:Int):=by omega
  have z0:i=0:=by omega
  subst z0;go_wp2_with fail;refine wp_loop_rounds 1 ?_;rw[rounds_succ];go_wp2;go_ret;exact⟨_,f,rfl,HO.out,pG.out,by omega,by omega,HG.out.le (by omega),HK.out⟩
end
section
theorem dr{P:Program}{md:Region.Mode}{ops:Array Oper}{Q:Exit->Act->Ys->Prop}{fuel:Nat}{l l':Array Bool}{a:Act}{w:Ys}(h:l=l')(hw:wpAny P md ops Q fuel l' a w):wpAny P md ops Q fuel l a w:=by subst h;exact hw
theorem oa{ops:Array Oper}{o:Oper}{a:Act}{w:Ys}{K:Act->Ys->Prop}{Q:Exit->Act->Ys->Prop}{E:Prop}(hgd:o.guard=none)(s x:Operand)
  (ho:o.op=.call { callee:=.builtin .append,args:=#[s,x],argTypes:=#[37,37] })
  (base:Nat) (v:Value) (n:Nat) (O:List St.It) (hs:a.eval s=v) (hown:w.ownsRow base 36 3 v n (ak O))
  (ad:Addr) (m c:Nat) (f:List St.It) (hx:a.eval x=Yj (some ad) m c) (hI:aH w (some ad) f) (hm:f.length=m) (h63:n+m<=200000) (hbase:base<=w.1.size)
  (h:∀v' w',w'.ownsRow base 36 3 v' (n+m) (ak (O++f))->w.grownBy w' v.ownBlock->K (a.put o.dst v') w'):if Region.wanted o (yielded ops a.tmps)=true then Oper.wp Tryz.prog o a w K Q else E:=by
 obtain⟨i0,hi,hz0,hz1,hz2⟩:=info_parts dH;refine cF hgd s x 37 ho base 36 i0 (.agg #[.int .i64 0,.string ⟨#[]⟩,.int .i64 0]) 3 32 Tryz.underlying37 hi hz0 hz1 hz2 rfl (by decide) v n _ hs hown ad m c (ak f) hx (by rw[j5,hm]) hI.cells (qv f) (by unfold maxLen;omega) (by omega) hbase ?_;intro v' w' ho' hg _;exact h v' w' (by rw[mR];exact ho') hg
theorem Ho{w:Ys}{b off:Nat}{f:List St.It}(h:aH w (some ⟨b,off,none⟩) f)(q:Nat):aH w (some ⟨b,off+q*3,none⟩) (f.drop q):=by
 intro h0;simp at h0;obtain⟨b',off',e,hb,hc⟩:=h (by omega);obtain⟨rfl,rfl⟩:b=b'/\off=off':=by simp at e;exact e
 refine⟨b,off+q*3,rfl,hb,λj hj=>?_⟩;simp at hj;have:=hc (q+j) (by omega)
 simp only[List.getElem_drop];rw[show off+q*3+j*3=off+(q+j)*3 by omega];exact this
theorem zuy{P:Program}{ops:Array Oper}{o:Oper}{a:Act}{w:Ys}{K:Act->Ys->Prop}{Q:Exit->Act->Ys->Prop}{E:Prop}
  (hg:o.guard=none) (f:FuncId) (args:Array Value) (Po:Ending->Ys->Prop) (hc:Calls P f args w Po)
  (hrun:(execOp a.eval o).run P w=.ok (.enter f args) w) (hK:∀e w',Po e w'->∃v,e=Yp v/\K (a.put o.dst v) w') :
  if Region.wanted o (yielded ops a.tmps)=true then Oper.wp P o a w K Q else E:=by
 have hw:Region.wanted o (yielded ops a.tmps)=true:=by simp[Region.wanted,hg]
 rw[if_pos hw];unfold Oper.wp;rw[hrun];refine hc.mono ?_;intro e w' hp;obtain⟨v,rfl,hk⟩:=hK e w' hp;exact hk
theorem Qv{W':Ys}{H e e' n n' b:Nat}{v9 v10:Value}{xs xs':List Value}{w2:Ys}(h9:W'.ownsRow H e 3 v9 n xs)(h10:w2.ownsRow b e' 3 v10 n' xs')(hH:w2.1.size<=H):v9.ownBlock=none\/v9.ownBlock≠v10.ownBlock:=by
 cases h:v9.ownBlock with
 | none=>exact .inl rfl
 | some x=>
  refine .inr λe=>?_
  have h1:=aB h9 x h;have h2:=(h10.lt x e.symm).2;omega
def Ni(w:Ys)(B g P n:Nat)(ns:Bool)(s9 db gw s12:Value)(wr:Ys):Prop:=∃(i k c:Nat) (f op:List St.It),s12=Yh Yn i/\gw=Yh Yn c/\k+i<=n/\wr.ownsRow w.1.size 36 3 s9 f.length (ak f)/\wr.ownsRow w.1.size 36 3 db op.length (ak op)/\(s9.ownBlock=none\/s9.ownBlock≠db.ownBlock)/\St.eP ns f op c/\f.length<=k/\op.length<=k/\c<=k/\aV f<=18*k/\bp wr B g (P+1+9*k)/\w.grownBy wr (some g)
def La(w:Ys)(B g P n:Nat)(ns:Bool)(e:Ending)(w':Ys):Prop:=∃(v:Value) (f op:List St.It) (c:Nat),e=Yp v/\w'.ownsRow w.1.size 36 3 v f.length (ak f)/\St.eP ns f op c/\f.length<=n/\aV f<=18*n/\bp w' B g (P+1+9*n)/\w.grownBy w' (some g)
end
section
theorem kw{P:Program}{md:Region.Mode}{ops:Array Oper}{Q:Exit->Act->Ys->Prop}{S:Ys->Prop}{fuel:Nat}{l l':Array Bool}{a:Act}{w:Ys}(h:l=l')(hw:wpAnyH P md ops Q S fuel l' a w):wpAnyH P md ops Q S fuel l a w:=by subst h;exact hw
theorem ui{ops:Array Oper}{o:Oper}{a:Act}{w:Ys}{K:Act->Ys->Prop}{Q:Exit->Act->Ys->Prop}{E:Prop}(hgd:o.guard=none)(s x:Operand)
  (ho:o.op=.call { callee:=.builtin .append,args:=#[s,x],argTypes:=#[37,37] })
  (base:Nat) (v:Value) (n:Nat) (O:List St.It) (hs:a.eval s=v) (hown:w.ownsRow base 36 3 v n (ak O))
  (ad:Addr) (m c:Nat) (f:List St.It) (hx:a.eval x=Yj (some ad) m c) (hI:aH w (some ad) f) (hm:f.length=m) (h63:n+m<=200000) (hbase:base<=w.1.size)
  (h:∀v' w',w'.ownsRow base 36 3 v' (n+m) (ak (O++f))->w.grownBy w' v.ownBlock->pB w v v'->K (a.put o.dst v') w'):if Region.wanted o (yielded ops a.tmps)=true then Oper.wp Tryz.prog o a w K Q else E:=by
 obtain⟨i0,hi,hz0,hz1,hz2⟩:=info_parts dH;refine jv hgd s x 37 ho base 36 i0 (.agg #[.int .i64 0,.string ⟨#[]⟩,.int .i64 0]) 3 32 Tryz.underlying37 hi hz0 hz1 hz2 rfl (by decide) v n _ hs hown ad m c (ak f) hx (by rw[j5,hm]) hI.cells (qv f) (by unfold maxLen;omega) (by omega) hbase ?_;intro v' w' ho' hg hf;exact h v' w' (by rw[mR];exact ho') hg hf
theorem LK{f op:List St.It}{c q:Nat}(h:St.eP true f (op.take (q+1)) c)(hq:q<op.length):St.eP true (f++[(3,St.nameOf op[q].2.1,op[q].2.2)]) (op.take q) c:=by
 have hl:(op.take (q+1)).length=q+1:=by simp;omega
 have:=St.eP.closed (ns:=true) q (by omega) (λ_=>hl.symm) h
 rw[St.io (show(3:Int)≠1 by decide)]at this;have e1:(op.take (q+1))[q]'(by omega)=op[q]:=by simp
 have e2:(op.take (q+1)).take q++(op.take (q+1)).drop (q+1)=op.take q:=by
  rw[List.drop_of_length_le (by omega),List.append_nil,List.take_take];congr 1;omega
 rw[e1,e2]at this;exact this
def Sr(w:Ys)(B g P n:Nat)(op:List St.It)(v10:Value)(c:Nat)(s9 pz:Value)(wr:Ys):Prop:=∃(j:Nat) (z:Int) (f:List St.It),pz=Yh Yn z/\z=(j:Int)-1/\j<=op.length/\wr.ownsRow w.1.size 36 3 s9 f.length (ak f)/\wr.ownsRow w.1.size 36 3 v10 op.length (ak op)/\(s9.ownBlock=none\/s9.ownBlock≠v10.ownBlock)/\St.eP true f (op.take j) c/\f.length+j<=2*n/\aV f+5*j<=23*n/\bp wr B g (P+1+9*n)/\w.grownBy wr (some g)
def BN(w:Ys)(B g P n:Nat)(e:Ending)(w':Ys):Prop:=∃(v:Value) (f:List St.It) (c:Nat),e=Yp v/\w'.ownsRow w.1.size 36 3 v f.length (ak f)/\St.eP true f [] c/\f.length<=2*n/\aV f<=23*n/\c<=n/\bp w' B g (P+1+9*n)/\w.grownBy w' (some g)
def K9(w:Ys)(B g P n:Nat)(ns:Bool)(e:Ending)(w':Ys):Prop:=cond ns (BN w B g P n e w') (La w B g P n false e w')
theorem Ju(ns:Bool)(B g P n:Nat)(w:Ys)(hG:bp w B g P)(hP:P<=100000)(hn:n<=100) :
  Calls Tryz.prog 66 #[Yl (some ⟨g,0,none⟩),Yh Yn n,Yk true,Yk ns] w (K9 w B g P n ns):=by
 have HG:=aa hG;obtain⟨ka,hB⟩:=hG.lt;obtain⟨i0,hi,hz0,hz1,hz2⟩:=info_parts dH;clear hG;go_enter Tryz.func66,Tryz.ntmps66;go_wp2_with fail;refine(bR B g P ((n:Int)+1) _ HG.out (by omega) (by omega) (by omega)).mono ?_;rintro e w2 ⟨r,rfl,hr,hG2,hk⟩;have HG2:=aa hG2;have fX:=aa hk;clear hG2 hk HG;go_wp2_with fail;go_loopw [9,10,11,12] (λs9 db gw s12 wr=>Ni w B g P n ns s9 db gw s12 wr) (λ_ _ _ s12 _=>(intOf s12).toNat)
 case atStart=>exact⟨r,0,0,[],[],rfl,rfl,by omega,World.ownsRow_nil _ _ _ _,World.ownsRow_nil _ _ _ _,.inl rfl,.nil,by simp,by simp,by omega,by simp[aV],HG2.out,fX.out⟩
 case round=>
  clear HG2 fX hr;obtain⟨i,k,c,f,op,rfl,rfl,hki,hown,hownp,jI,mh,hfl,hol,jy,hft,hG,hk⟩:=hrel;have HG:=aa hG;have HK:=aa hk;have HO:=aa hown;have HP:=aa hownp;have HD:=aa jI;have jP:=aa mh;clear hG hk hown hownp jI mh
  by_cases XJ:0<i
  ·have z:(0:Int)<(i:Int):=by omega
   obtain⟨wo,rfl⟩:∃wo:Ys,wo=wr:=⟨_,rfl⟩;go_wp2_with fail;refine(vH B g _ 3 _ HG.out (by omega) (by omega)).mono ?_;rintro e w3 ⟨t,rfl,hts,hG3,hk3⟩;have ix:=aa hG3;have fH:=aa (aO HK.out hk3 (λ_ e=>.inl e));have fo:=aa (eA HO.out hk3 (by omega));have zB:=aa (eA HP.out hk3 (by omega));clear hG3 hk3 HG HK HO HP;have Rv:=fH.out.size;obtain⟨A9,c9,rfl,_,_,hA9⟩:=aR fo.out;obtain⟨gE,bH,rfl,h10c,h10m,hA10⟩:=aR zB.out;have eS:∀x,(Yj A9 f.length c9).ownBlock=some x->x<w3.1.size:=λx hx=>(fo.out.lt x hx).2
   have xz:∀x,(Yj gE op.length bH).ownBlock=some x->x<w3.1.size:=λx hx=>(zB.out.lt x hx).2
   have kQ:∀(W:Ys) (b:Nat) (x:St.It),aH W A9 f->aH W (some ⟨b,0,none⟩) [x]->aV (f++[x])<=4611686018427387904->Calls Tryz.prog 44 #[Yj A9 f.length c9,Yj (some ⟨b,0,none⟩) 1 1] W λe w'=>∃v,e=Yp v/\w'.ownsRow W.1.size 36 3 v (St.aL f x).length (ak (St.aL f x))/\ac W w':=by
    intro W b x h h' ht;have:=gZ A9 f.length c9 f (some ⟨b,0,none⟩) 1 1 [x] W rfl rfl (λe=>by have:=hA9 e;omega) (λe=>by cases e) h h' (by omega) ht
    rw[St.eh,jP.out.nm]at this;exact this
   have ee:=aa kQ;clear kQ
   have fin:∀(x:St.It) (v7 v10:Value) (w6 w7:Ys) (cK:List St.It) (c':Nat) (gw:Value),gw=Yh Yn (c':Nat)->St.eP ns (St.aL f x) cK c'->x.2.1.length<=18->cK.length<=op.length+1->c'<=c+1->w7.ownsRow w6.1.size 36 3 v7 (St.aL f x).length (ak (St.aL f x))->w6.ownsRow w.1.size 36 3 v10 cK.length (ak cK)->ac w6 w7->w.1.size<=w6.1.size->bp w7 B g (P+1+9*(k+1))->w.grownBy w7 (some g)->Ni w B g P n ns v7 v10 gw (Yh Yn ((i:Int)-1)) w7:=by
    intro x v7 v10 w6 w7 cK c' gw Vb hg hx ho' hc' cW mj bM hwz hG hk;have h1:=(St.gL f x).1;have h2:=gW f x;exact⟨i-1,k+1,c',St.aL f x,cK,congrArg (Yh Yn) (by omega),Vb,by omega,cH cW hwz,aF bM mj,Qv cW mj (Nat.le_refl _),hg,by omega,by omega,by omega,by omega,hG,hk⟩
   have gX:=aa fin;clear fin;have Fp:g<w3.1.size:=by omega
   go_wp2_with fail;refine(bR B g _ 8 _ (ix.out.ai ((ac.refl _).alloc _)) (by omega) (by omega) (by omega)).mono ?_;rintro e w4 ⟨r,rfl,hr,hG4,hk4⟩;have eL:=aa hG4;have dm:=aa (aO (bK fH.out ((ac.refl _).alloc (Yo #[Yh Yn 1,Yi t,Yh Yn 0] 36))) hk4 (λ_ e=>.inl e));have iA:=aa (eA (fo.out.alloc (Yo #[Yh Yn 1,Yi t,Yh Yn 0] 36)) hk4 (by omega));have qK:=aa (eA (zB.out.alloc (Yo #[Yh Yn 1,Yi t,Yh Yn 0] 36)) hk4 (by omega));have hb4:w4.1[w3.1.size]?=some (Yo #[Yh Yn 1,Yi t,Yh Yn 0] 36 (0,0)):=(hk4.block w3.1.size (by simp) (by simp;omega)).trans (heap_alloc_new w3 _);have nV:w3.1.size<w4.1.size:=ae hb4;have d0:w4.cell? ⟨w3.1.size,0,none⟩=some (Yh Yn 1):=aj hb4 0;have d1:w4.cell? ⟨w3.1.size,1,none⟩=some (Yi t):=aj hb4 1;have d2:w4.cell? ⟨w3.1.size,2,none⟩=some (Yh Yn 0):=aj hb4 2;haveI:af w3.1.size w4:=af.of nV;have pf:r<8:=by omega
   clear hG4 hk4 ix fH fo zB hr;rcases(show(r=0\/r=1)\/r=2\/(r=3\/r=4)\/(r=5\/r=6)\/r=7 by omega)with h|h|h|h|h
   ·rcases h with h|h
    all_goals
     subst h;clear pf d0 d1 d2;go_wp2_with fail;refine(bR B g _ 3 _ (eL.out.ai ((ac.refl _).alloc (Yo #[Yi ⟨#[110]⟩,Yi ⟨#[110,97,109,101]⟩,Yi ⟨#[120,49]⟩] 9))) (by omega) (by omega) (by omega)).mono ?_;rintro e w5 ⟨q,rfl,hq,fZ,hk5⟩
     obtain⟨u,hu,kg,hun⟩:∃u:ByteArray,(#[Yi ⟨#[110]⟩,Yi ⟨#[110,97,109,101]⟩,Yi ⟨#[120,49]⟩]:Array Value)[q]?=some (Yi u)/\u.size<=5/\St.aE u.1.1=true:=by
      rcases(show q=0\/q=1\/q=2 by omega)with h|h|h<;>subst h<;>exact⟨_,rfl,by decide,by decide⟩
     have hcell:=gN w4 w5 _ _ B g hk5 ka (by omega) q _ hu;have jO:=aa fZ;have oF:=aa (aO (bK dm.out ((ac.refl _).alloc (Yo #[Yi ⟨#[110]⟩,Yi ⟨#[110,97,109,101]⟩,Yi ⟨#[120,49]⟩] 9))) hk5 (λ_ e=>.inl e));have eW:=aa (eA (iA.out.alloc (Yo #[Yi ⟨#[110]⟩,Yi ⟨#[110,97,109,101]⟩,Yi ⟨#[120,49]⟩] 9)) hk5 (by omega));have sY:=aa (eA (qK.out.alloc (Yo #[Yi ⟨#[110]⟩,Yi ⟨#[110,97,109,101]⟩,Yi ⟨#[120,49]⟩] 9)) hk5 (by omega));have cA:w5.1[w3.1.size]?=some (Yo #[Yh Yn 1,Yi t,Yh Yn 0] 36 (0,0)):=(hk5.block w3.1.size (by simp;omega) (by simp;omega)).trans ((((ac.refl w4).alloc _).below.block w3.1.size nV).trans hb4);haveI:af w4.1.size w5:=af.of (cx _ _ hcell);have N7:q<3:=by omega
     have f0:w5.frozen? ⟨w3.1.size,0,none⟩=false:=bz cA 0;have f1:w5.frozen? ⟨w3.1.size,1,none⟩=false:=bz cA 1;have f2:w5.frozen? ⟨w3.1.size,2,none⟩=false:=bz cA 2;have g0:w5.cell? ⟨w3.1.size,0,none⟩=some (Yh Yn 1):=aj cA 0;have g1:w5.cell? ⟨w3.1.size,1,none⟩=some (Yi t):=aj cA 1;have g2:w5.cell? ⟨w3.1.size,2,none⟩=some (Yh Yn 0):=aj cA 2;haveI:af w3.1.size w5:=af.of (ae cA);have hob:(Yj A9 f.length c9).ownBlock≠some w3.1.size:=λe=>by have:=eS _ e;omega
     have iP:(Yj gE op.length bH).ownBlock≠some w3.1.size:=λe=>by have:=xz _ e;omega
     have hkey:∀W,W=((w5.setCell ⟨w3.1.size,0,none⟩ (Yh Yn 5)).setCell ⟨w3.1.size,1,none⟩ (Yi u)).setCell ⟨w3.1.size,2,none⟩ (Yh Yn 0)->W.ownsRow w.1.size 36 3 (Yj A9 f.length c9) f.length (ak f)/\W.ownsRow w.1.size 36 3 (Yj gE op.length bH) op.length (ak op)/\bp W B g (P+1+9*(k+1))/\w.grownBy W (some g)/\W.1.size=w5.1.size/\W.1[w3.1.size]?=some (Yo #[Yh Yn 5,Yi u,Yh Yn 0] 36 (0,0)):=by
      intro W hW;subst hW;have hBb:∀x,some w3.1.size=some x->B<=x:=λx e=>by cases e;omega
      refine⟨aD (aD (aD eW.out hob) hob) hob,aD (aD (aD sY.out iP) iP) iP,?_,bQ (bQ (bQ oF.out _ _ (.inr (by show w.1.size<=w3.1.size;omega))) _ _ (.inr (by show w.1.size<=w3.1.size;omega))) _ _ (.inr (by show w.1.size<=w3.1.size;omega)),by simp,heap_setCell_same _ w3.1.size 2 _ _ _ (heap_setCell_same _ w3.1.size 1 _ _ _ (heap_setCell_same w5 w3.1.size 0 _ _ _ cA))⟩;exact(((jO.out.gb (cJ w5 ⟨w3.1.size,0,none⟩ _) hBb).gb (cJ _ ⟨w3.1.size,1,none⟩ _) hBb).gb (cJ _ ⟨w3.1.size,2,none⟩ _) hBb).le (by omega)
     have HKEY:=aa (hkey _ rfl);have yI:=HKEY.out.2.2.1.lt.2;clear fZ hk5 eL dm iA qK hkey hu hq;go_wp2_with fail;refine(ee.out _ _ (5,u.1.1,0) ?_ ?_ ?_).mono ?_
     ·exact(aW HKEY.out.1 rfl).ai ((ac.refl _).alloc _)
     ·rw[<-bn u];exact fA _ _ _ _ (by simp) (by rw[World.cell?_alloc_at _ _ _ _ (by simp)];rfl) (by rw[World.cell?_alloc_at _ _ _ _ (by simp)];rfl) (by rw[World.cell?_alloc_at _ _ _ _ (by simp)];rfl)
     ·rw[cw];simp;omega
     rintro e w7 ⟨v7,rfl,cW,bM⟩;have hrel:=gX.out (5,u.1.1,0) v7 _ _ w7 op c _ rfl (jP.out.slot _ hun) (by simp;omega) (by omega) (by omega) cW (HKEY.out.2.1.alloc _) bM (by have:=HKEY.out.2.2.2.1.size;simp at this |-;omega) ((HKEY.out.2.2.1.ai ((ac.refl _).alloc _)).ai bM) (bK HKEY.out.2.2.2.1 (((ac.refl _).alloc _).trans bM));have br:=aa hrel;clear hrel cW bM hcell;go_wp2;exact⟨br.out,by simp[intOf];omega⟩
   ·subst h;clear pf d0 d1 d2;go_wp2_with fail;refine(bR B g _ 2 _ (eL.out.ai ((ac.refl _).alloc (Yo #[Yi ⟨#[98,114]⟩,Yi ⟨#[105,109,103,32,97]⟩] 9))) (by omega) (by omega) (by omega)).mono ?_;rintro e w5 ⟨q,rfl,hq,fZ,hk5⟩
    obtain⟨u,hu,kg,hun⟩:∃u:ByteArray,(#[Yi ⟨#[98,114]⟩,Yi ⟨#[105,109,103,32,97]⟩]:Array Value)[q]?=some (Yi u)/\u.size<=5/\u.1.1∈St.F8:=by
     rcases(show q=0\/q=1 by omega)with h|h<;>subst h<;>exact⟨_,rfl,by decide,by decide⟩
    have hcell:=gN w4 w5 _ _ B g hk5 ka (by omega) q _ hu;have jO:=aa fZ;have oF:=aa (aO (bK dm.out ((ac.refl _).alloc (Yo #[Yi ⟨#[98,114]⟩,Yi ⟨#[105,109,103,32,97]⟩] 9))) hk5 (λ_ e=>.inl e));have eW:=aa (eA (iA.out.alloc (Yo #[Yi ⟨#[98,114]⟩,Yi ⟨#[105,109,103,32,97]⟩] 9)) hk5 (by omega));have sY:=aa (eA (qK.out.alloc (Yo #[Yi ⟨#[98,114]⟩,Yi ⟨#[105,109,103,32,97]⟩] 9)) hk5 (by omega));have cA:w5.1[w3.1.size]?=some (Yo #[Yh Yn 1,Yi t,Yh Yn 0] 36 (0,0)):=(hk5.block w3.1.size (by simp;omega) (by simp;omega)).trans ((((ac.refl w4).alloc _).below.block w3.1.size nV).trans hb4);haveI:af w4.1.size w5:=af.of (cx _ _ hcell);have N7:q<2:=by omega
    have f0:w5.frozen? ⟨w3.1.size,0,none⟩=false:=bz cA 0;have f1:w5.frozen? ⟨w3.1.size,1,none⟩=false:=bz cA 1;have f2:w5.frozen? ⟨w3.1.size,2,none⟩=false:=bz cA 2;have g0:w5.cell? ⟨w3.1.size,0,none⟩=some (Yh Yn 1):=aj cA 0;have g1:w5.cell? ⟨w3.1.size,1,none⟩=some (Yi t):=aj cA 1;have g2:w5.cell? ⟨w3.1.size,2,none⟩=some (Yh Yn 0):=aj cA 2;haveI:af w3.1.size w5:=af.of (ae cA);have hob:(Yj A9 f.length c9).ownBlock≠some w3.1.size:=λe=>by have:=eS _ e;omega
    have iP:(Yj gE op.length bH).ownBlock≠some w3.1.size:=λe=>by have:=xz _ e;omega
    have hkey:∀W,W=((w5.setCell ⟨w3.1.size,0,none⟩ (Yh Yn 4)).setCell ⟨w3.1.size,1,none⟩ (Yi u)).setCell ⟨w3.1.size,2,none⟩ (Yh Yn ((c:Int)+1))->W.ownsRow w.1.size 36 3 (Yj A9 f.length c9) f.length (ak f)/\W.ownsRow w.1.size 36 3 (Yj gE op.length bH) op.length (ak op)/\bp W B g (P+1+9*(k+1))/\w.grownBy W (some g)/\W.1.size=w5.1.size/\W.1[w3.1.size]?=some (Yo #[Yh Yn 4,Yi u,Yh Yn ((c:Int)+1)] 36 (0,0)):=by
     intro W hW;subst hW;have hBb:∀x,some w3.1.size=some x->B<=x:=λx e=>by cases e;omega
     refine⟨aD (aD (aD eW.out hob) hob) hob,aD (aD (aD sY.out iP) iP) iP,?_,bQ (bQ (bQ oF.out _ _ (.inr (by show w.1.size<=w3.1.size;omega))) _ _ (.inr (by show w.1.size<=w3.1.size;omega))) _ _ (.inr (by show w.1.size<=w3.1.size;omega)),by simp,heap_setCell_same _ w3.1.size 2 _ _ _ (heap_setCell_same _ w3.1.size 1 _ _ _ (heap_setCell_same w5 w3.1.size 0 _ _ _ cA))⟩;exact(((jO.out.gb (cJ w5 ⟨w3.1.size,0,none⟩ _) hBb).gb (cJ _ ⟨w3.1.size,1,none⟩ _) hBb).gb (cJ _ ⟨w3.1.size,2,none⟩ _) hBb).le (by omega)
    have HKEY:=aa (hkey _ rfl);have yI:=HKEY.out.2.2.1.lt.2;clear fZ hk5 eL dm iA qK hkey hu hq;go_wp2_with fail;refine(ee.out _ _ (4,u.1.1,(c:Int)+1) ?_ ?_ ?_).mono ?_
    ·exact(aW HKEY.out.1 rfl).ai ((ac.refl _).alloc _)
    ·rw[<-bn u];exact eg _ _ _ _ _ (by simp) (by rw[World.cell?_alloc_at _ _ _ _ (by simp)];rfl) (by rw[World.cell?_alloc_at _ _ _ _ (by simp)];rfl) (by rw[World.cell?_alloc_at _ _ _ _ (by simp)];rfl)
    ·rw[cw];simp;omega
    rintro e w7 ⟨v7,rfl,cW,bM⟩;have hrel:=gX.out (4,u.1.1,(c:Int)+1) v7 _ _ w7 op (c+1) (Yh Yn ((c:Int)+1)) rfl (jP.out.empty _ hun) (by simp;omega) (by omega) (by omega) cW (HKEY.out.2.1.alloc _) bM (by have:=HKEY.out.2.2.2.1.size;simp at this |-;omega) ((HKEY.out.2.2.1.ai ((ac.refl _).alloc _)).ai bM) (bK HKEY.out.2.2.2.1 (((ac.refl _).alloc _).trans bM));have br:=aa hrel;clear hrel cW bM hcell;go_wp2;exact⟨br.out,by simp[intOf];omega⟩
   ·rcases h with h|h
    all_goals
     subst h;clear pf d0 d1 d2;go_wp2_with fail;refine(bR B g _ 3 _ (eL.out.ai ((ac.refl _).alloc (Yo #[Yi ⟨#[98]⟩,Yi ⟨#[105]⟩,Yi ⟨#[97,32,104,61,49]⟩] 9))) (by omega) (by omega) (by omega)).mono ?_;rintro e w5 ⟨q,rfl,hq,fZ,hk5⟩
     obtain⟨u,hu,kg,hun⟩:∃u:ByteArray,(#[Yi ⟨#[98]⟩,Yi ⟨#[105]⟩,Yi ⟨#[97,32,104,61,49]⟩]:Array Value)[q]?=some (Yi u)/\u.size<=5/\u.1.1∈St.Bl:=by
      rcases(show q=0\/q=1\/q=2 by omega)with h|h|h<;>subst h<;>exact⟨_,rfl,by decide,by decide⟩
     have hcell:=gN w4 w5 _ _ B g hk5 ka (by omega) q _ hu;have jO:=aa fZ;have oF:=aa (aO (bK dm.out ((ac.refl _).alloc (Yo #[Yi ⟨#[98]⟩,Yi ⟨#[105]⟩,Yi ⟨#[97,32,104,61,49]⟩] 9))) hk5 (λ_ e=>.inl e));have eW:=aa (eA (iA.out.alloc (Yo #[Yi ⟨#[98]⟩,Yi ⟨#[105]⟩,Yi ⟨#[97,32,104,61,49]⟩] 9)) hk5 (by omega));have sY:=aa (eA (qK.out.alloc (Yo #[Yi ⟨#[98]⟩,Yi ⟨#[105]⟩,Yi ⟨#[97,32,104,61,49]⟩] 9)) hk5 (by omega));have cA:w5.1[w3.1.size]?=some (Yo #[Yh Yn 1,Yi t,Yh Yn 0] 36 (0,0)):=(hk5.block w3.1.size (by simp;omega) (by simp;omega)).trans ((((ac.refl w4).alloc _).below.block w3.1.size nV).trans hb4);haveI:af w4.1.size w5:=af.of (cx _ _ hcell);have N7:q<3:=by omega
     have f0:w5.frozen? ⟨w3.1.size,0,none⟩=false:=bz cA 0;have f1:w5.frozen? ⟨w3.1.size,1,none⟩=false:=bz cA 1;have f2:w5.frozen? ⟨w3.1.size,2,none⟩=false:=bz cA 2;have g0:w5.cell? ⟨w3.1.size,0,none⟩=some (Yh Yn 1):=aj cA 0;have g1:w5.cell? ⟨w3.1.size,1,none⟩=some (Yi t):=aj cA 1;have g2:w5.cell? ⟨w3.1.size,2,none⟩=some (Yh Yn 0):=aj cA 2;haveI:af w3.1.size w5:=af.of (ae cA);have hob:(Yj A9 f.length c9).ownBlock≠some w3.1.size:=λe=>by have:=eS _ e;omega
     have iP:(Yj gE op.length bH).ownBlock≠some w3.1.size:=λe=>by have:=xz _ e;omega
     have hkey:∀W,W=((w5.setCell ⟨w3.1.size,0,none⟩ (Yh Yn 2)).setCell ⟨w3.1.size,1,none⟩ (Yi u)).setCell ⟨w3.1.size,2,none⟩ (Yh Yn ((c:Int)+1))->W.ownsRow w.1.size 36 3 (Yj A9 f.length c9) f.length (ak f)/\W.ownsRow w.1.size 36 3 (Yj gE op.length bH) op.length (ak op)/\bp W B g (P+1+9*(k+1))/\w.grownBy W (some g)/\W.1.size=w5.1.size/\W.1[w3.1.size]?=some (Yo #[Yh Yn 2,Yi u,Yh Yn ((c:Int)+1)] 36 (0,0)):=by
      intro W hW;subst hW;have hBb:∀x,some w3.1.size=some x->B<=x:=λx e=>by cases e;omega
      refine⟨aD (aD (aD eW.out hob) hob) hob,aD (aD (aD sY.out iP) iP) iP,?_,bQ (bQ (bQ oF.out _ _ (.inr (by show w.1.size<=w3.1.size;omega))) _ _ (.inr (by show w.1.size<=w3.1.size;omega))) _ _ (.inr (by show w.1.size<=w3.1.size;omega)),by simp,heap_setCell_same _ w3.1.size 2 _ _ _ (heap_setCell_same _ w3.1.size 1 _ _ _ (heap_setCell_same w5 w3.1.size 0 _ _ _ cA))⟩;exact(((jO.out.gb (cJ w5 ⟨w3.1.size,0,none⟩ _) hBb).gb (cJ _ ⟨w3.1.size,1,none⟩ _) hBb).gb (cJ _ ⟨w3.1.size,2,none⟩ _) hBb).le (by omega)
     have HKEY:=aa (hkey _ rfl);have yI:=HKEY.out.2.2.1.lt.2;clear fZ hk5 eL dm iA qK hkey hu hq;go_wp2_with (at_builtin;refine wpList_append_own _ rfl _ _ 37 rfl w.1.size 36 i0 (.agg #[.int .i64 0,.string ⟨#[]⟩,.int .i64 0]) 3 32 Tryz.underlying37 hi hz0 hz1 hz2 rfl (by decide) (.slice gE op.length bH) op.length _ rfl (HKEY.out.2.1.alloc _) _ 1 1 [.int .i64 2,.string u,.int .i64 ((c:Int)+1)] rfl rfl ?_ (cL _ _ _) (by unfold maxLen;omega) (by omega) ?_ ?_)
     ·exact dW _ _ _ _ _ _ (by simp)
     ·have:=HKEY.out.2.2.2.1.size;simp at this |-;omega
     intro v' w6 hown' hgrow _;have hwk:=HKEY.out.2.2.2.1.size;have Xp:=HKEY.out.2.2.2.2.1;have yK:=ae cA;have hrow:∀x,(Yj gE op.length bH).ownBlock=some x->w.1.size<=x:=λx hx=>aB HKEY.out.2.1 x hx
     have sO:=(HKEY.out.1.alloc (Yo #[Yh Yn 2,Yi u,Yh Yn ((c:Int)+1)] 36)).kept hgrow HD.out;have fT:w6.1[w3.1.size]?=some (Yo #[Yh Yn 2,Yi u,Yh Yn ((c:Int)+1)] 36 (0,0)):=(hgrow.block w3.1.size (by simp;omega) (λe=>iP e.symm)).trans ((((ac.refl _).alloc _).below.block w3.1.size (by simp;omega)).trans HKEY.out.2.2.2.2.2)
     have mj:w6.ownsRow w.1.size 36 3 v' (op++[((2:Int),u.1.1,(c:Int)+1)]).length (ak (op++[((2:Int),u.1.1,(c:Int)+1)])):=by
      rw[bD];simp only[bn,List.length_append,List.length_cons,List.length_nil];exact hown'
     have xw:bp w6 B g (P+1+9*(k+1)):=(HKEY.out.2.2.1.ai ((ac.refl _).alloc _)).gb hgrow (λx e=>Nat.le_trans hB (hrow x e));have Ft:w.grownBy w6 (some g):=aO (bK HKEY.out.2.2.2.1 ((ac.refl _).alloc _)) hgrow (λx e=>.inr (hrow x e));have c0:w6.cell? ⟨w3.1.size,0,none⟩=some (Yh Yn 2):=aj fT 0;have c1:w6.cell? ⟨w3.1.size,1,none⟩=some (Yi u):=aj fT 1;have c2:w6.cell? ⟨w3.1.size,2,none⟩=some (Yh Yn ((c:Int)+1)):=aj fT 2;haveI:af w3.1.size w6:=af.of (ae fT);obtain⟨Av,cv,rfl,_,_,_⟩:=aR mj;have pI:=aa sO;have jG:=aa mj;have qI:=aa xw;have wF:=aa Ft;have hzz:=Ft.size;clear hown' hgrow sO mj xw Ft fT hrow HKEY f0 f1 f2 g0 g1 g2 hcell;go_wp2_with fail;refine(ee.out _ _ (2,u.1.1,(c:Int)+1) ?_ ?_ ?_).mono ?_
     ·exact(aW pI.out rfl).ai ((ac.refl _).alloc _)
     ·rw[<-bn u];exact eg _ _ _ _ _ (by simp) (by rw[World.cell?_alloc_at _ _ _ _ (by simp)];rfl) (by rw[World.cell?_alloc_at _ _ _ _ (by simp)];rfl) (by rw[World.cell?_alloc_at _ _ _ _ (by simp)];rfl)
     ·rw[cw];simp;omega
     rintro e w7 ⟨v7,rfl,cW,bM⟩;have hrel:=gX.out (2,u.1.1,(c:Int)+1) v7 _ _ w7 (op++[((2:Int),u.1.1,(c:Int)+1)]) (c+1) (Yh Yn ((c:Int)+1)) rfl (jP.out.opened _ hun) (by simp;omega) (by simp) (by omega) cW (jG.out.alloc _) bM (by simp;omega) ((qI.out.ai ((ac.refl _).alloc _)).ai bM) (bK wF.out (((ac.refl _).alloc _).trans bM));have br:=aa hrel;clear hrel cW bM;go_wp2;exact⟨by have h:=br.out;simp only[List.length_append,List.length_cons,List.length_nil,Nat.zero_add]at h;exact h,by simp[intOf];omega⟩
   ·rcases h with h|h
    all_goals
     subst h;clear pf
     by_cases hop:op.length=0
     ·have y1:¬(0:Int)<=(op.length:Int)-1:=by omega
      have He:op.length<=0:=by omega
      clear hop;cases ns
      ·have cA:=hb4;clear d0 d1 d2 hb4;have f0:w4.frozen? ⟨w3.1.size,0,none⟩=false:=bz cA 0;have f1:w4.frozen? ⟨w3.1.size,1,none⟩=false:=bz cA 1;have f2:w4.frozen? ⟨w3.1.size,2,none⟩=false:=bz cA 2;have g0:w4.cell? ⟨w3.1.size,0,none⟩=some (Yh Yn 1):=aj cA 0;have g1:w4.cell? ⟨w3.1.size,1,none⟩=some (Yi t):=aj cA 1;have g2:w4.cell? ⟨w3.1.size,2,none⟩=some (Yh Yn 0):=aj cA 2;haveI:af w3.1.size w4:=af.of (ae cA);have hob:(Yj A9 f.length c9).ownBlock≠some w3.1.size:=λe=>by have:=eS _ e;omega
       have iP:(Yj gE op.length bH).ownBlock≠some w3.1.size:=λe=>by have:=xz _ e;omega
       have hkey:∀W,W=((w4.setCell ⟨w3.1.size,0,none⟩ (Yh Yn 3)).setCell ⟨w3.1.size,1,none⟩ (Yi ⟨#[98]⟩)).setCell ⟨w3.1.size,2,none⟩ (Yh Yn ((c:Int)+1))->W.ownsRow w.1.size 36 3 (Yj A9 f.length c9) f.length (ak f)/\W.ownsRow w.1.size 36 3 (Yj gE op.length bH) op.length (ak op)/\bp W B g (P+1+9*(k+1))/\w.grownBy W (some g)/\W.1.size=w4.1.size/\W.1[w3.1.size]?=some (Yo #[Yh Yn 3,Yi ⟨#[98]⟩,Yh Yn ((c:Int)+1)] 36 (0,0)):=by
        intro W hW;subst hW;have hBb:∀x,some w3.1.size=some x->B<=x:=λx e=>by cases e;omega
        refine⟨aD (aD (aD iA.out hob) hob) hob,aD (aD (aD qK.out iP) iP) iP,?_,bQ (bQ (bQ dm.out _ _ (.inr (by show w.1.size<=w3.1.size;omega))) _ _ (.inr (by show w.1.size<=w3.1.size;omega))) _ _ (.inr (by show w.1.size<=w3.1.size;omega)),by simp,heap_setCell_same _ w3.1.size 2 _ _ _ (heap_setCell_same _ w3.1.size 1 _ _ _ (heap_setCell_same w4 w3.1.size 0 _ _ _ cA))⟩;exact(((eL.out.gb (cJ w4 ⟨w3.1.size,0,none⟩ _) hBb).gb (cJ _ ⟨w3.1.size,1,none⟩ _) hBb).gb (cJ _ ⟨w3.1.size,2,none⟩ _) hBb).le (by omega)
       have HKEY:=aa (hkey _ rfl);have yI:=HKEY.out.2.2.1.lt.2;clear hkey;go_wp2_with fail;refine(ee.out _ _ (3,[98],(c:Int)+1) ?_ ?_ ?_).mono ?_
       ·exact(aW HKEY.out.1 rfl).ai ((ac.refl _).alloc _)
       ·exact eg _ _ _ _ _ (by simp) (by rw[World.cell?_alloc_at _ _ _ _ (by simp)];rfl) (by rw[World.cell?_alloc_at _ _ _ _ (by simp)];rfl) (by rw[World.cell?_alloc_at _ _ _ _ (by simp)];rfl)
       ·rw[cw];simp;omega
       rintro e w7 ⟨v7,rfl,cW,bM⟩;have hrel:=gX.out (3,[98],(c:Int)+1) v7 _ _ w7 op (c+1) (Yh Yn ((c:Int)+1)) rfl (jP.out.stray rfl) (by simp) (by omega) (by omega) cW (HKEY.out.2.1.alloc _) bM (by have:=HKEY.out.2.2.2.1.size;simp at this |-;omega) ((HKEY.out.2.2.1.ai ((ac.refl _).alloc _)).ai bM) (bK HKEY.out.2.2.2.1 (((ac.refl _).alloc _).trans bM));have br:=aa hrel;clear hrel cW bM;go_wp2;exact⟨br.out,by simp[intOf];omega⟩
      clear hb4;go_wp2_with fail;refine(ee.out _ _ (1,t.1.1,0) ?_ ?_ ?_).mono ?_
      ·exact(aW iA.out rfl).ai ((ac.refl _).alloc _)
      ·rw[<-bn t];exact fA _ _ _ _ (by simp) (by simp) (by simp) (by simp)
      ·rw[cw];simp;omega
      rintro e w7 ⟨v7,rfl,cW,bM⟩;have hrel:=gX.out (1,t.1.1,0) v7 _ _ w7 op c _ rfl (jP.out.text _) (by simp;omega) (by omega) (by omega) cW (qK.out.alloc _) bM (by have:=dm.out.size;simp at this |-;omega) (((eL.out.ai ((ac.refl _).alloc _)).ai bM).le (by omega)) (bK dm.out (((ac.refl _).alloc _).trans bM));have br:=aa hrel;clear hrel cW bM d0 d1 d2;go_wp2;exact⟨br.out,by simp[intOf];omega⟩
     have y1:(0:Int)<=(op.length:Int)-1:=by omega
     cases ns
     case' false=>
      clear d0 d1 d2;go_wp2_with fail;refine(bR B g _ _ _ eL.out (by omega) ?_ ?_).mono ?_
      ·omega
      ·omega
      rintro e w5 ⟨q,rfl,hq,fZ,hk5⟩;have hq2:q<op.length:=by omega
      have jO:=aa fZ;have oF:=aa (aO dm.out hk5 (λ_ e=>.inl e));have eW:=aa (eA iA.out hk5 (by omega));have sY:=aa (eA qK.out hk5 (by omega));have cA:w5.1[w3.1.size]?=some (Yo #[Yh Yn 1,Yi t,Yh Yn 0] 36 (0,0)):=(hk5.block w3.1.size (by omega) (by simp;omega)).trans hb4
     case' true=>
      obtain⟨q,hq⟩:∃q,op.length=q+1:=⟨op.length-1,by omega⟩;have Cx:(op.length:Int)-1=(q:Int):=by omega
      rw[Cx]at y1;have hq2:q<op.length:=by omega
      obtain⟨w5,rfl⟩:∃w5:Ys,w5=w4:=⟨_,rfl⟩;have jO:=eL;have oF:=dm;have eW:=iA;have sY:=qK;have cA:=hb4;clear hq d0 d1 d2
     all_goals
      obtain⟨dz,off10,e10,jn,hc10⟩:=(aW sY.out rfl) (by omega);subst e10;obtain⟨p0,p1,p2⟩:=hc10 q hq2;have hsm:=(jP.out.small op[q] (List.getElem_mem hq2)).1;have mh:=St.eP.closed q hq2 (λe=>by cases e<;>omega) jP.out;generalize op[q]=y at p0 p1 p2 hsm mh;obtain⟨yk,yt,yi⟩:=y;simp only at p0 p1 p2 hsm mh;have Ux:=aa mh;clear hc10 mh;have hnl:=St.vM yt;go_wp2_with fail;refine bU (λa b=>a.grownBy b (some w3.1.size)) (λL W=>if L 12=true then ∃W0,ac w5 W0/\W=((W0.setCell ⟨w3.1.size,0,none⟩ (Yh Yn 3)).setCell ⟨w3.1.size,1,none⟩ (Yi ⟨(St.nameOf yt).toArray⟩)).setCell ⟨w3.1.size,2,none⟩ (Yh Yn yi)else ac w5 W) [λv _=>v=Yj (some ⟨dz,off10,none⟩) op.length bH,λv _=>v=Yh Yn q,λv _=>v=Yl (some ⟨dz,off10+q*3,none⟩),λv _=>v=Yl (some ⟨dz,off10+q*3+1,none⟩),λv _=>v=Yi ⟨yt.toArray⟩,λv _=>v=Yi ⟨(St.nameOf yt).toArray⟩,λv _=>v=Yj (some ⟨dz,off10,none⟩) op.length bH,λv _=>v=Yh Yn q,λv _=>v=Yl (some ⟨dz,off10+q*3,none⟩),λv _=>v=Yl (some ⟨dz,off10+q*3+2,none⟩),λv _=>v=Yh Yn yi,λv _=>v=.agg #[Yh Yn 3,Yi ⟨(St.nameOf yt).toArray⟩,Yh Yn yi],kl] (λa=>bA a _) (λa b c h k=>aO h k (λ_ e=>.inl e)) (by kernel_rfl) (by rfl) (by kernel_rfl) (by kernel_rfl) ?_ ?_ ?_ ?_ ?_;rotate_left 1
      ·intro ρ;simp only[bZ,Act.put,ax,aw,ay,Nat.zero_add,Nat.reduceAdd];exact rfl
      ·exact uZ
      ·refine aq.cons (λρ L W hR hI hL hD hO hF K hK=>?_) ?_
       ·clear hF hD hO;simp only[Act.put,ax,aw,ay]at hK |-;go_simp;refine hK _ _ (bA _ _) (by simpa[ar]using hI) (λW2 h2=>?_);rfl
       refine aq.cons (λρ L W hR hI hL hD hO hF K hK=>?_) ?_
       ·clear hF hD hO;simp only[Act.put,ax,aw,ay]at hK |-;go_simp;refine hK _ _ (bA _ _) (by simpa[ar]using hI) (λW2 h2=>?_);rfl
       refine aq.cons (λρ L W hR hI hL hD hO hF K hK=>?_) ?_
       ·have f0:=ag hF (j:=0) (by decide);have f1:=ag hF (j:=1) (by decide);clear hF hD hO;simp only[Act.put,ax,aw,ay]at hK |-;have e0:ρ 0=Yj (some ⟨dz,off10,none⟩) op.length bH:=f0;have e1:ρ 1=Yh Yn q:=f1;rw[e0,e1]at hK |-;have z1:(q:Int)<(op.length:Int):=by omega
        go_simp;refine hK _ _ (bA _ _) (by simpa[ar]using hI) (λW2 h2=>?_);rfl
       refine aq.cons (λρ L W hR hI hL hD hO hF K hK=>?_) ?_
       ·have f2:=ag hF (j:=2) (by decide);clear hF hD hO;simp only[Act.put,ax,aw,ay]at hK |-;have e2:ρ 2=Yl (some ⟨dz,off10+q*3,none⟩):=f2;rw[e2]at hK |-;go_simp;refine hK _ _ (bA _ _) (by simpa[ar]using hI) (λW2 h2=>?_);rfl
       refine aq.cons (λρ L W hR hI hL hD hO hF K hK=>?_) ?_
       ·have f3:=ag hF (j:=3) (by decide);have h12:L 12=false:=hD.not (p:=12) rfl (by decide) hL;have nL:ac w5 W:=by simpa[h12]using hI
        clear hF hD hO;simp only[Act.put,ax,aw,ay]at hK |-;have e3:ρ 3=Yl (some ⟨dz,off10+q*3+1,none⟩):=f3;rw[e3]at hK |-;have hc:=(nL.cell (p:=⟨dz,off10+q*3+1,none⟩) jn).trans p1;haveI:af dz W:=af.of (Nat.lt_of_lt_of_le jn nL.size);go_simp;refine hK _ _ (bA _ _) (by simpa[ar]using hI) (λW2 h2=>?_);rfl
       refine aq.cons (λρ L W hR hI hL hD hO hF K hK=>?_) ?_
       ·have f4:=ag hF (j:=4) (by decide);have h12:L 12=false:=hD.not (p:=12) rfl (by decide) hL;have nL:ac w5 W:=by simpa[h12]using hI
        clear hF hD hO;simp only[Act.put,ax,aw,ay]at hK |-;have e4:ρ 4=Yi ⟨yt.toArray⟩:=f4;rw[e4]at hK |-;refine zuy (o:=⟨some 86,_,_,_,_,_⟩) rfl 105 #[Yi ⟨yt.toArray⟩] _ (kL yt W (by omega)) ?_ ?_
        ·go_simp
        rintro e W2 ⟨rfl,hu⟩;exact⟨_,rfl,hK _ _ (hu.gb _) (by simpa[ar,h12]using nL.trans hu) (λW3 h3=>rfl)⟩
       refine aq.cons (λρ L W hR hI hL hD hO hF K hK=>?_) ?_
       ·clear hF hD hO;simp only[Act.put,ax,aw,ay]at hK |-;go_simp;refine hK _ _ (bA _ _) (by simpa[ar]using hI) (λW2 h2=>?_);rfl
       refine aq.cons (λρ L W hR hI hL hD hO hF K hK=>?_) ?_
       ·clear hF hD hO;simp only[Act.put,ax,aw,ay]at hK |-;go_simp;refine hK _ _ (bA _ _) (by simpa[ar]using hI) (λW2 h2=>?_);rfl
       refine aq.cons (λρ L W hR hI hL hD hO hF K hK=>?_) ?_
       ·have f6:=ag hF (j:=6) (by decide);have f7:=ag hF (j:=7) (by decide);clear hF hD hO;simp only[Act.put,ax,aw,ay]at hK |-;have e6:ρ 6=Yj (some ⟨dz,off10,none⟩) op.length bH:=f6;have e7:ρ 7=Yh Yn q:=f7;rw[e6,e7]at hK |-;have z1:(q:Int)<(op.length:Int):=by omega
        go_simp;refine hK _ _ (bA _ _) (by simpa[ar]using hI) (λW2 h2=>?_);rfl
       refine aq.cons (λρ L W hR hI hL hD hO hF K hK=>?_) ?_
       ·have f8:=ag hF (j:=8) (by decide);clear hF hD hO;simp only[Act.put,ax,aw,ay]at hK |-;have e8:ρ 8=Yl (some ⟨dz,off10+q*3,none⟩):=f8;rw[e8]at hK |-;go_simp;refine hK _ _ (bA _ _) (by simpa[ar]using hI) (λW2 h2=>?_);rfl
       refine aq.cons (λρ L W hR hI hL hD hO hF K hK=>?_) ?_
       ·have f9:=ag hF (j:=9) (by decide);have h12:L 12=false:=hD.not (p:=12) rfl (by decide) hL;have nL:ac w5 W:=by simpa[h12]using hI
        clear hF hD hO;simp only[Act.put,ax,aw,ay]at hK |-;have e9:ρ 9=Yl (some ⟨dz,off10+q*3+2,none⟩):=f9;rw[e9]at hK |-;have hc:=(nL.cell (p:=⟨dz,off10+q*3+2,none⟩) jn).trans p2;haveI:af dz W:=af.of (Nat.lt_of_lt_of_le jn nL.size);go_simp;refine hK _ _ (bA _ _) (by simpa[ar]using hI) (λW2 h2=>?_);rfl
       refine aq.cons (λρ L W hR hI hL hD hO hF K hK=>?_) ?_
       ·have f5:=ag hF (j:=5) (by decide);have f10:=ag hF (j:=10) (by decide);clear hF hD hO;simp only[Act.put,ax,aw,ay]at hK |-;have e5:ρ 5=Yi ⟨(St.nameOf yt).toArray⟩:=f5;have e10:ρ 10=Yh Yn yi:=f10;rw[e5,e10]at hK |-;go_simp;refine hK _ _ (bA _ _) (by simpa[ar]using hI) (λW2 h2=>?_);rfl
       refine aq.cons (λρ L W hR hI hL hD hO hF K hK=>?_) ?_
       ·have f11:=ag hF (j:=11) (by decide);have nL:ac w5 W:=by simpa[hL]using hI
        clear hF hD hO;simp only[Act.put,ax,aw,ay]at hK |-;have e11:ρ 11=.agg #[Yh Yn 3,Yi ⟨(St.nameOf yt).toArray⟩,Yh Yn yi]:=f11;rw[e11]at hK |-;have hbW:=(nL.below.block w3.1.size (ae cA)).trans cA;have f0:W.frozen? ⟨w3.1.size,0,none⟩=false:=bz hbW 0;have f1:W.frozen? ⟨w3.1.size,1,none⟩=false:=bz hbW 1;have f2:W.frozen? ⟨w3.1.size,2,none⟩=false:=bz hbW 2;have g0:W.cell? ⟨w3.1.size,0,none⟩=some (Yh Yn 1):=aj hbW 0;have g1:W.cell? ⟨w3.1.size,1,none⟩=some (Yi t):=aj hbW 1;have g2:W.cell? ⟨w3.1.size,2,none⟩=some (Yh Yn 0):=aj hbW 2;haveI:af w3.1.size W:=af.of (ae hbW);go_simp;refine hK undef _ (bQ (bQ (cJ _ ⟨w3.1.size,0,none⟩ _) ⟨w3.1.size,1,none⟩ _ (.inl rfl)) ⟨w3.1.size,2,none⟩ _ (.inl rfl)) (by simp only[ar,if_true];exact⟨W,nL,rfl⟩) (λ_ _=>trivial)
       exact aq.nil
      intro ρ L W hR hI hL hF;have h12:L 12=true:=hL 12 (by decide);rw[if_pos h12]at hI;obtain⟨w6,dD,hW⟩:=hI;have EW:=aa (aF dD eW.out);have sy:=aa (aF dD sY.out);have qI:=aa (jO.out.ai dD);have wF:=aa (bK oF.out dD);have cA:=(dD.below.block w3.1.size (ae cA)).trans cA;have yK:=ae cA;clear hR hL hF h12;have f0:w6.frozen? ⟨w3.1.size,0,none⟩=false:=bz cA 0;have f1:w6.frozen? ⟨w3.1.size,1,none⟩=false:=bz cA 1;have f2:w6.frozen? ⟨w3.1.size,2,none⟩=false:=bz cA 2;have g0:w6.cell? ⟨w3.1.size,0,none⟩=some (Yh Yn 1):=aj cA 0;have g1:w6.cell? ⟨w3.1.size,1,none⟩=some (Yi t):=aj cA 1;have g2:w6.cell? ⟨w3.1.size,2,none⟩=some (Yh Yn 0):=aj cA 2;haveI:af w3.1.size w6:=af.of (ae cA);have hob:(Yj A9 f.length c9).ownBlock≠some w3.1.size:=λe=>by have:=eS _ e;omega
      have iP:(Yj (some ⟨dz,off10,none⟩) op.length bH).ownBlock≠some w3.1.size:=λe=>by have:=xz _ e;omega
      have hkey:∀W,W=((w6.setCell ⟨w3.1.size,0,none⟩ (Yh Yn 3)).setCell ⟨w3.1.size,1,none⟩ (Yi ⟨(St.nameOf yt).toArray⟩)).setCell ⟨w3.1.size,2,none⟩ (Yh Yn yi)->W.ownsRow w.1.size 36 3 (Yj A9 f.length c9) f.length (ak f)/\W.ownsRow w.1.size 36 3 (Yj (some ⟨dz,off10,none⟩) op.length bH) op.length (ak op)/\bp W B g (P+1+9*(k+1))/\w.grownBy W (some g)/\W.1.size=w6.1.size/\W.1[w3.1.size]?=some (Yo #[Yh Yn 3,Yi ⟨(St.nameOf yt).toArray⟩,Yh Yn yi] 36 (0,0)):=by
       intro W hW;subst hW;have hBb:∀x,some w3.1.size=some x->B<=x:=λx e=>by cases e;omega
       refine⟨aD (aD (aD EW.out hob) hob) hob,aD (aD (aD sy.out iP) iP) iP,?_,bQ (bQ (bQ wF.out _ _ (.inr (by show w.1.size<=w3.1.size;omega))) _ _ (.inr (by show w.1.size<=w3.1.size;omega))) _ _ (.inr (by show w.1.size<=w3.1.size;omega)),by simp,heap_setCell_same _ w3.1.size 2 _ _ _ (heap_setCell_same _ w3.1.size 1 _ _ _ (heap_setCell_same w6 w3.1.size 0 _ _ _ cA))⟩;exact(((qI.out.gb (cJ w6 ⟨w3.1.size,0,none⟩ _) hBb).gb (cJ _ ⟨w3.1.size,1,none⟩ _) hBb).gb (cJ _ ⟨w3.1.size,2,none⟩ _) hBb).le (by omega)
      have HKEY:=aa (hkey W hW);have yI:=HKEY.out.2.2.1.lt.2;have XM:=HKEY.out.2.2.2.2.1;have Rb:=HKEY.out.2.2.2.1.size;have hit:=aW HKEY.out.2.1 rfl;have Uy:=aa (rV hit q);have G9:=Ux.out;obtain⟨q1,hq1⟩:∃q1,q1=q+1:=⟨_,rfl⟩;rw[<-hq1]at G9;have Sx:=aa G9;clear G9
      obtain⟨ox,hox,hit2⟩:∃ox,(if bH=q1 then(some ⟨dz,off10,none⟩:Option Addr)else some ⟨dz,off10+q1*3,none⟩)=some ⟨dz,ox,none⟩/\aH W (some ⟨dz,ox,none⟩) (op.drop q1):=by
       by_cases JN:bH=q1
       ·exact⟨off10,if_pos JN,λh0=>by simp at h0;omega⟩
       exact⟨off10+q1*3,if_neg JN,Ho hit q1⟩
      have Uz:=aa hit2;clear hit2;have hw:IntKind.i64.wrap (q1:Int)=(q1:Int):=IntWalk.i64_in _ (by omega);have hw1:(q:Int)+1=(q1:Int):=by omega
      have hw2:(0:Int)<=(q1:Int):=by omega
      have hw3:(q1:Int)<=(op.length:Int):=by omega
      have hw4:q1<=op.length:=by omega
      have XR:q+1<=q1:=by omega
      have XS:q1<=q+1:=by omega
      clear hq1;have hbW:=HKEY.out.2.2.2.2.2;have JS:(q:Int)<=(op.length:Int):=by omega
      have hl4:(q:Int)<=(bH:Int):=by omega
      have Fu:(op.length:Int)<=(bH:Int):=by omega
      haveI:af dz W:=af.of (by have:=dD.size;omega);clear hkey hW cA f0 f1 f2 g0 g1 g2 p0 p1 p2 hit dD;go_wp2_with fail;refine wp_region_any (by kernel_rfl) ?_
      try (change wpAny _ _ _ _ _ _ _ (World.drew _))
      refine dr (l':=#[bF,bF,bF,bF,bF,bF,bF,bF,bF,bF]) (by kernel_rfl) ?_;refine wpAny_take (i:=0) (v:=?_) rfl (by kernel_rfl) (by kernel_rfl) (by kernel_rfl) (λ_ _ _ h=>h) (Or.inl ⟨by rfl,?_⟩) ?_;rotate_left 1
      ·(intro W9;go_simp;try with_reducible rfl)
      try go_simp
      refine dr (l':=#[bT,bF,bF,bF,bF,bF,bF,bF,bF,bF]) (by kernel_rfl) ?_;refine wpAny_take (i:=1) (v:=?_) rfl (by kernel_rfl) (by kernel_rfl) (by kernel_rfl) (λ_ _ _ h=>h) (Or.inl ⟨by rfl,?_⟩) ?_;rotate_left 1
      ·(intro W9;go_simp;try with_reducible rfl)
      try go_simp
      refine dr (l':=#[bT,bT,bF,bF,bF,bF,bF,bF,bF,bF]) (by kernel_rfl) ?_;refine wpAny_take (i:=2) (v:=?_) rfl (by kernel_rfl) (by kernel_rfl) (by kernel_rfl) (λ_ _ _ h=>h) (Or.inl ⟨by rfl,?_⟩) ?_;rotate_left 1
      ·(intro W9;go_simp;try with_reducible rfl)
      try go_simp
      refine dr (l':=#[bT,bT,bT,bF,bF,bF,bF,bF,bF,bF]) (by kernel_rfl) ?_;refine wpAny_take (i:=4) (v:=?_) rfl (by kernel_rfl) (by kernel_rfl) (by kernel_rfl) (λ_ _ _ h=>h) (Or.inl ⟨by rfl,?_⟩) ?_;rotate_left 1
      ·(intro W9;go_simp;try with_reducible rfl)
      try go_simp
      refine dr (l':=#[bT,bT,bT,bF,bT,bF,bF,bF,bF,bF]) (by kernel_rfl) ?_;refine wpAny_take (i:=5) (v:=?_) rfl (by kernel_rfl) (by kernel_rfl) (by kernel_rfl) (λ_ _ _ h=>h) (Or.inl ⟨by rfl,?_⟩) ?_;rotate_left 1
      ·(intro W9;go_simp;try with_reducible rfl)
      try go_simp
      refine dr (l':=#[bT,bT,bT,bF,bT,bT,bF,bF,bF,bF]) (by kernel_rfl) ?_;refine wpAny_take (i:=6) (v:=?_) rfl (by kernel_rfl) (by kernel_rfl) (by kernel_rfl) (λ_ _ _ h=>h) (Or.inl ⟨by rfl,?_⟩) ?_;rotate_left 1
      ·(intro W9;go_simp;try with_reducible rfl)
      try go_simp
      refine dr (l':=#[bT,bT,bT,bF,bT,bT,bT,bF,bF,bF]) (by kernel_rfl) ?_;refine wpAny_take (i:=7) (v:=?_) rfl (by kernel_rfl) (by kernel_rfl) (by kernel_rfl) (λ_ _ _ h=>h) (Or.inl ⟨by rfl,?_⟩) ?_;rotate_left 1
      ·(intro W9;go_simp;try with_reducible rfl)
      try go_simp
      refine dr (l':=#[bT,bT,bT,bF,bT,bT,bT,bT,bF,bF]) (by kernel_rfl) ?_;refine wpAny_ready (rs:=[3]) (by kernel_rfl) (by simp) ?_;refine AllReady.cons (o:=⟨some 96,_,_,_,_,_⟩) rfl (λK hK=>?_) AllReady.nil;refine oa (o:=⟨some 96,_,_,_,_,_⟩) rfl _ _ rfl W.1.size (Yj none 0 0) 0 [] rfl (World.ownsRow_nil _ _ _ _) ⟨dz,off10,none⟩ q bH (op.take q) rfl (Uy.out.ai (ac.refl W).drew) (by simp;omega) (by omega) (by exact Nat.le_refl _) ?_;intro Uo w8 uU TZ;have mr:ac W w8:=((ac.refl W).drew).grown TZ (λg e=>by cases e);have lT:=aa (show w8.ownsRow W.1.size 36 3 Uo q (ak (op.take q))by simpa using uU);have mI:=aa mr;clear uU TZ mr
      try go_simp
      refine hK _ _ ?_;clear hK K;refine dr (l':=#[bT,bT,bT,bT,bT,bT,bT,bT,bF,bF]) (by kernel_rfl) ?_;refine wpAny_ready (rs:=[8]) (by kernel_rfl) (by simp) ?_;refine AllReady.cons (o:=⟨some 101,_,_,_,_,_⟩) rfl (λK hK=>?_) AllReady.nil;refine oa (o:=⟨some 101,_,_,_,_,_⟩) rfl _ _ rfl W.1.size Uo q (op.take q) rfl lT.out ⟨dz,ox,none⟩ (op.length-q1) (bH-q1) (op.drop q1) ?_ (Uz.out.ai mI.out) (by simp) (by omega) mI.out.size ?_
      ·first|rfl|(go_simp;try rfl)
      intro Vp w9 sO xx;have pk:ac W w9:=mI.out.grown xx (λx e=>aB lT.out x e);have pI:=aa sO;have gm:=aa pk;clear sO xx pk
      try go_simp
      refine hK _ _ ?_;clear hK K;refine dr (l':=#[bT,bT,bT,bT,bT,bT,bT,bT,bT,bF]) (by kernel_rfl) ?_;refine wpAny_take (i:=9) (v:=?_) rfl (by kernel_rfl) (by kernel_rfl) (by kernel_rfl) (λ_ _ _ h=>h) (Or.inl ⟨by rfl,?_⟩) ?_;rotate_left 1
      ·(intro W9;go_simp;try with_reducible rfl)
      try go_simp
      refine dr (l':=#[bT,bT,bT,bT,bT,bT,bT,bT,bT,bT]) (by kernel_rfl) ?_;refine wpAny_done (by kernel_rfl) ?_ _;have He:(op.take q++op.drop q1).length=op.length-1:=by simp;omega
      have U8:q+(op.length-q1)=op.length-1:=by omega
      have mj:w9.ownsRow W.1.size 36 3 Vp (op.take q++op.drop q1).length (ak (op.take q++op.drop q1)):=by
       have:=pI.out
       rw[U8]at this;rw[He];exact this
      obtain⟨Av,cv,rfl,_,_,_⟩:=aR mj;have xp:=(gm.out.below.block w3.1.size (ae hbW)).trans hbW;have c0:w9.cell? ⟨w3.1.size,0,none⟩=some (Yh Yn 3):=aj xp 0;have c1:w9.cell? ⟨w3.1.size,1,none⟩=some (Yi ⟨(St.nameOf yt).toArray⟩):=aj xp 1;have c2:w9.cell? ⟨w3.1.size,2,none⟩=some (Yh Yn yi):=aj xp 2;haveI:af w3.1.size w9:=af.of (ae xp);have XB:=gm.out.size;have jG:=aa mj;clear mj xp pI;go_wp2_with fail;refine(ee.out _ _ (3,St.nameOf yt,yi) ?_ ?_ ?_).mono ?_
      ·exact((aW HKEY.out.1 rfl).ai gm.out).ai ((ac.refl _).alloc _)
      ·exact eg _ _ _ _ _ (by simp) (by rw[World.cell?_alloc_at _ _ _ _ (by simp)];rfl) (by rw[World.cell?_alloc_at _ _ _ _ (by simp)];rfl) (by rw[World.cell?_alloc_at _ _ _ _ (by simp)];rfl)
      ·rw[cw];simp;omega
      rintro e w7 ⟨v7,rfl,cW,bM⟩;have hrel:=gX.out (3,St.nameOf yt,yi) v7 _ _ w7 (op.take q++op.drop q1) c _ rfl Sx.out (by show(St.nameOf yt).length<=18;omega) (by omega) (by omega) cW ((cH jG.out (by omega)).alloc _) bM (by simp;omega) (((HKEY.out.2.2.1.ai gm.out).ai ((ac.refl _).alloc _)).ai bM) (bK (bK HKEY.out.2.2.2.1 gm.out) (((ac.refl _).alloc _).trans bM));have br:=aa hrel;clear hrel cW bM;go_wp2;exact⟨by have h:=br.out;rw[He]at h;exact h,by simp[intOf];omega⟩
   subst h;clear pf hb4;go_wp2_with fail;refine(ee.out _ _ (1,t.1.1,0) ?_ ?_ ?_).mono ?_
   ·exact(aW iA.out rfl).ai ((ac.refl _).alloc _)
   ·rw[<-bn t];exact fA _ _ _ _ (by simp) (by simp) (by simp) (by simp)
   ·rw[cw];simp;omega
   rintro e w7 ⟨v7,rfl,cW,bM⟩;have hrel:=gX.out (1,t.1.1,0) v7 _ _ w7 op c _ rfl (jP.out.text _) (by simp;omega) (by omega) (by omega) cW (qK.out.alloc _) bM (by have:=dm.out.size;simp at this |-;omega) (((eL.out.ai ((ac.refl _).alloc _)).ai bM).le (by omega)) (bK dm.out (((ac.refl _).alloc _).trans bM));have br:=aa hrel;clear hrel cW bM d0 d1 d2;go_wp2;exact⟨br.out,by simp[intOf];omega⟩
  have z:¬(0:Int)<(i:Int):=by omega
  have z0:i=0:=by omega
  subst z0;cases ns
  ·obtain⟨A9,c9,rfl,_,_,_⟩:=aR HO.out;obtain⟨gE,bH,rfl,_,_,_⟩:=aR HP.out
   by_cases hop:op.length=0
   ·have y1:¬(0:Int)<=(op.length:Int)-1:=by omega
    have He:op.length<=0:=by omega
    clear hop;go_wp2_with fail;refine wp_loop_rounds 1 ?_;rw[rounds_succ];go_wp2;go_ret;exact⟨_,f,op,c,rfl,HO.out,jP.out,by omega,by omega,HG.out.le (by omega),HK.out⟩
   have y1:(0:Int)<=(op.length:Int)-1:=by omega
   go_wp2_with fail;refine wp_loop_rounds 1 ?_;rw[rounds_succ];go_wp2;go_ret;exact⟨_,f,op,c,rfl,HO.out,jP.out,by omega,by omega,HG.out.le (by omega),HK.out⟩
  obtain⟨gE,bH,rfl,h10c,h10m,_⟩:=aR HP.out;have hst:=jP.out;rw[<-List.take_length (l:=op)]at hst;have HST:=aa hst;clear hst;go_wp2_with fail;go_loopw [9,15] (λs9 pz wr=>Sr w B g P n op (Yj gE op.length bH) c s9 pz wr) (λ_ pz _=>(intOf pz+1).toNat)
  case atStart=>exact⟨op.length,_,f,rfl,rfl,Nat.le_refl _,HO.out,HP.out,HD.out,HST.out,by omega,by omega,HG.out.le (by omega),HK.out⟩
  case round=>
   clear HO HP HD HG HK HST jP;obtain⟨j,zz,f,rfl,hzz,hj,hown,hownp,jI,mh,hfl2,hft2,hG,hk⟩:=hrel;have HG:=aa hG;have HK:=aa hk;have HO:=aa hown;have HP:=aa hownp;have jP:=aa mh;obtain⟨A9,c9,rfl,_,_,_⟩:=aR HO.out
   by_cases N0:j=0
   ·subst N0;obtain rfl:zz=-1:=by omega
    have BY:=aa (show St.eP true f [] c from mh);clear hG hk hown hownp jI mh hzz jP;go_wp2;go_ret;exact⟨_,f,c,rfl,HO.out,BY.out,by omega,by omega,by omega,HG.out,HK.out⟩
   obtain⟨q,rfl⟩:∃q,j=q+1:=⟨j-1,by omega⟩;obtain rfl:zz=(q:Int):=by omega
   have hq2:q<op.length:=by omega
   obtain⟨dz,rfl,hb10B,jn,hc10⟩:=dU hownp (by omega);have NW:=kF op q hq2;have p1:=hc10 _ _ NW.2.1;have p2:=hc10 _ _ NW.2.2;have hsm:=(mh.small op[q] (List.mem_take_iff_getElem.2 ⟨q,by omega,rfl⟩)).1;have BY:=aa (LK mh hq2)
   have BI:(Yj A9 f.length c9).ownBlock≠some dz:=by
    rcases jI with h|h
    ·rw[h];exact λe=>by cases e
    exact h
   generalize op[q]=y at p1 p2 hsm BY;obtain⟨yk,yt,yi⟩:=y;simp only at p1 p2 hsm BY;have hnl:=St.vM yt;have hy0:(0:Int)<=(q:Int):=by omega
   have hy1:(q:Int)<(op.length:Int):=by omega
   haveI:af dz wr:=af.of jn;have e0:=p1;have e1:=p2;clear hG hk hown hownp jI mh hzz NW hc10 jP N0;go_wp2_with fail;refine wp_region_any (by kernel_rfl) ?_
   try (change wpAny _ _ _ _ _ _ _ (World.drew _))
   refine dr (l':=#[bF,bF,bF,bF,bF,bF,bF,bF,bF,bF,bF,bF,bF,bF,bF,bF]) (by kernel_rfl) ?_;refine wpAny_take (i:=0) (oi:=⟨some 125,_,_,_,_,_⟩) (v:=?_) rfl (by kernel_rfl) (by kernel_rfl) (by kernel_rfl) (λ_ _ _ h=>h) (Or.inl ⟨by rfl,?_⟩) ?_;rotate_left 1
   ·(intro W9;go_simp;try with_reducible rfl)
   conv=>arg 7;simp only[Act.put,ax,aw,ay]
   refine dr (l':=#[bT,bF,bF,bF,bF,bF,bF,bF,bF,bF,bF,bF,bF,bF,bF,bF]) (by kernel_rfl) ?_;refine wpAny_take (i:=1) (oi:=⟨some 126,_,_,_,_,_⟩) (v:=?_) rfl (by kernel_rfl) (by kernel_rfl) (by kernel_rfl) (λ_ _ _ h=>h) (Or.inl ⟨by rfl,?_⟩) ?_;rotate_left 1
   ·(intro W9;go_simp;try with_reducible rfl)
   conv=>arg 7;simp only[Act.put,ax,aw,ay]
   refine dr (l':=#[bT,bT,bF,bF,bF,bF,bF,bF,bF,bF,bF,bF,bF,bF,bF,bF]) (by kernel_rfl) ?_;refine wpAny_take (i:=2) (oi:=⟨some 127,_,_,_,_,_⟩) (v:=?_) rfl (by kernel_rfl) (by kernel_rfl) (by kernel_rfl) (λ_ _ _ h=>h) (Or.inl ⟨by rfl,?_⟩) ?_;rotate_left 1
   ·(intro W9;go_simp;try with_reducible rfl)
   conv=>arg 7;simp only[Act.put,ax,aw,ay]
   refine dr (l':=#[bT,bT,bT,bF,bF,bF,bF,bF,bF,bF,bF,bF,bF,bF,bF,bF]) (by kernel_rfl) ?_;refine wpAny_take (i:=3) (oi:=⟨some 128,_,_,_,_,_⟩) (v:=?_) rfl (by kernel_rfl) (by kernel_rfl) (by kernel_rfl) (λ_ _ _ h=>h) (Or.inl ⟨by rfl,?_⟩) ?_;rotate_left 1
   ·(intro W9;go_simp;try with_reducible rfl)
   conv=>arg 7;simp only[Act.put,ax,aw,ay]
   refine dr (l':=#[bT,bT,bT,bT,bF,bF,bF,bF,bF,bF,bF,bF,bF,bF,bF,bF]) (by kernel_rfl) ?_;refine wpAny_take (i:=4) (oi:=⟨some 129,_,_,_,_,_⟩) (v:=?_) rfl (by kernel_rfl) (by kernel_rfl) (by kernel_rfl) (λ_ _ _ h=>h) (Or.inl ⟨by rfl,?_⟩) ?_;rotate_left 1
   ·(intro W9;go_simp;try with_reducible rfl)
   conv=>arg 7;simp only[Act.put,ax,aw,ay]
   refine dr (l':=#[bT,bT,bT,bT,bT,bF,bF,bF,bF,bF,bF,bF,bF,bF,bF,bF]) (by kernel_rfl) ?_;refine wpAny_take (i:=7) (oi:=⟨some 132,_,_,_,_,_⟩) (v:=?_) rfl (by kernel_rfl) (by kernel_rfl) (by kernel_rfl) (λ_ _ _ h=>h) (Or.inl ⟨by rfl,?_⟩) ?_;rotate_left 1
   ·(intro W9;go_simp;try with_reducible rfl)
   conv=>arg 7;simp only[Act.put,ax,aw,ay]
   refine dr (l':=#[bT,bT,bT,bT,bT,bF,bF,bT,bF,bF,bF,bF,bF,bF,bF,bF]) (by kernel_rfl) ?_;refine wpAny_take (i:=8) (oi:=⟨some 133,_,_,_,_,_⟩) (v:=?_) rfl (by kernel_rfl) (by kernel_rfl) (by kernel_rfl) (λ_ _ _ h=>h) (Or.inl ⟨by rfl,?_⟩) ?_;rotate_left 1
   ·(intro W9;go_simp;try with_reducible rfl)
   conv=>arg 7;simp only[Act.put,ax,aw,ay]
   refine dr (l':=#[bT,bT,bT,bT,bT,bF,bF,bT,bT,bF,bF,bF,bF,bF,bF,bF]) (by kernel_rfl) ?_;refine wpAny_take (i:=9) (oi:=⟨some 134,_,_,_,_,_⟩) (v:=?_) rfl (by kernel_rfl) (by kernel_rfl) (by kernel_rfl) (λ_ _ _ h=>h) (Or.inl ⟨by rfl,?_⟩) ?_;rotate_left 1
   ·(intro W9;go_simp;try with_reducible rfl)
   conv=>arg 7;simp only[Act.put,ax,aw,ay]
   refine dr (l':=#[bT,bT,bT,bT,bT,bF,bF,bT,bT,bT,bF,bF,bF,bF,bF,bF]) (by kernel_rfl) ?_;refine wpAny_take (i:=10) (oi:=⟨some 135,_,_,_,_,_⟩) (v:=?_) rfl (by kernel_rfl) (by kernel_rfl) (by kernel_rfl) (λ_ _ _ h=>h) (Or.inl ⟨by rfl,?_⟩) ?_;rotate_left 1
   ·(intro W9;go_simp;try with_reducible rfl)
   conv=>arg 7;simp only[Act.put,ax,aw,ay]
   refine dr (l':=#[bT,bT,bT,bT,bT,bF,bF,bT,bT,bT,bT,bF,bF,bF,bF,bF]) (by kernel_rfl) ?_;refine wpAny_of_held (S:=λW=>W.cell? ⟨dz,q*3+1,none⟩=some (Yi ⟨yt.toArray⟩)/\W.cell? ⟨dz,q*3+2,none⟩=some (Yh Yn yi)) _ _ _ _ ?_;refine wpAnyH_take (i:=5) (oi:=⟨some 130,_,_,_,_,_⟩) (v:=?_) rfl (by kernel_rfl) (by kernel_rfl) (by kernel_rfl) (λ_ _ _ h=>h) (Or.inl ⟨by rfl,?_⟩) ?_ ?_;rotate_left 1
   ·(intro W9 l8;have NU:W9.cell? ⟨dz,q*3+1,none⟩=some (Yi ⟨yt.toArray⟩):=l8.1;have NV:W9.cell? ⟨dz,q*3+2,none⟩=some (Yh Yn yi):=l8.2;clear l8;go_simp;try with_reducible rfl)
   ·first|assumption|exact⟨e0,e1⟩|(refine⟨?_,?_⟩<;>(go_simp;done))
   conv=>arg 8;simp only[Act.put,ax,aw,ay]
   refine kw (l':=#[bT,bT,bT,bT,bT,bT,bF,bT,bT,bT,bT,bF,bF,bF,bF,bF]) (by kernel_rfl) ?_;refine wpAnyH_take (i:=11) (oi:=⟨some 136,_,_,_,_,_⟩) (v:=?_) rfl (by kernel_rfl) (by kernel_rfl) (by kernel_rfl) (λ_ _ _ h=>h) (Or.inl ⟨by rfl,?_⟩) ?_ ?_;rotate_left 1
   ·(intro W9 l8;have NU:W9.cell? ⟨dz,q*3+1,none⟩=some (Yi ⟨yt.toArray⟩):=l8.1;have NV:W9.cell? ⟨dz,q*3+2,none⟩=some (Yh Yn yi):=l8.2;clear l8;go_simp;try with_reducible rfl)
   ·first|assumption|exact⟨e0,e1⟩|(refine⟨?_,?_⟩<;>(go_simp;done))
   conv=>arg 8;simp only[Act.put,ax,aw,ay]
   refine kw (l':=#[bT,bT,bT,bT,bT,bT,bF,bT,bT,bT,bT,bT,bF,bF,bF,bF]) (by kernel_rfl) ?_;refine wpAnyH_ready (rs:=[6]) (by kernel_rfl) (by simp) ?_;refine AllReadyH.cons (o:=⟨some 131,_,_,_,_,_⟩) rfl (λK hK=>?_) AllReadyH.nil;refine zuy (o:=⟨some 131,_,_,_,_,_⟩) rfl 105 #[Yi ⟨yt.toArray⟩] _ (kL yt _ (by omega)) ?_ ?_
   ·go_simp
   rintro e W2 ⟨rfl,hu⟩;refine⟨_,rfl,?_⟩;have hu2:ac wr W2:=(ac.refl wr).drew.trans hu;have e0:=(hu2.cell (p:=⟨dz,q*3+1,none⟩) jn).trans p1;have e1:=(hu2.cell (p:=⟨dz,q*3+2,none⟩) jn).trans p2;haveI:af dz W2:=af.of (Nat.lt_of_lt_of_le jn hu2.size);have aX:=aa hu2;clear hu hu2;refine hK _ _ ⟨?_,?_⟩
   ·clear hK K;first|assumption|exact⟨e0,e1⟩|(refine⟨?_,?_⟩<;>(go_simp;done))
   clear hK K
   conv=>arg 8;simp only[Act.put,ax,aw,ay]
   refine kw (l':=#[bT,bT,bT,bT,bT,bT,bT,bT,bT,bT,bT,bT,bF,bF,bF,bF]) (by kernel_rfl) ?_;refine wpAnyH_take (i:=12) (oi:=⟨some 137,_,_,_,_,_⟩) (v:=?_) rfl (by kernel_rfl) (by kernel_rfl) (by kernel_rfl) (λ_ _ _ h=>h) (Or.inl ⟨by rfl,?_⟩) ?_ ?_;rotate_left 1
   ·(intro W9 l8;have NU:W9.cell? ⟨dz,q*3+1,none⟩=some (Yi ⟨yt.toArray⟩):=l8.1;have NV:W9.cell? ⟨dz,q*3+2,none⟩=some (Yh Yn yi):=l8.2;clear l8;go_simp;try with_reducible rfl)
   ·first|assumption|exact⟨e0,e1⟩|(refine⟨?_,?_⟩<;>(go_simp;done))
   conv=>arg 8;simp only[Act.put,ax,aw,ay]
   refine kw (l':=#[bT,bT,bT,bT,bT,bT,bT,bT,bT,bT,bT,bT,bT,bF,bF,bF]) (by kernel_rfl) ?_;refine wpAnyH_ready (rs:=[13]) (by kernel_rfl) (by simp) ?_;refine AllReadyH.cons (o:=⟨some 138,_,_,_,_,_⟩) rfl (λK hK=>?_) AllReadyH.nil;go_simp;have e0:(W2.alloc (Yo #[Yh Yn 3,Yi ⟨(St.nameOf yt).toArray⟩,Yh Yn yi] 36)).cell? ⟨dz,q*3+1,none⟩=some (Yi ⟨yt.toArray⟩):=((aX.out.alloc _).cell (p:=⟨dz,q*3+1,none⟩) jn).trans p1;have e1:(W2.alloc (Yo #[Yh Yn 3,Yi ⟨(St.nameOf yt).toArray⟩,Yh Yn yi] 36)).cell? ⟨dz,q*3+2,none⟩=some (Yh Yn yi):=((aX.out.alloc _).cell (p:=⟨dz,q*3+2,none⟩) jn).trans p2;refine hK _ _ ⟨?_,?_⟩
   ·clear hK K;first|assumption|exact⟨e0,e1⟩|(refine⟨?_,?_⟩<;>(go_simp;done))
   clear hK K
   conv=>arg 8;simp only[Act.put,ax,aw,ay]
   refine kw (l':=#[bT,bT,bT,bT,bT,bT,bT,bT,bT,bT,bT,bT,bT,bT,bF,bF]) (by kernel_rfl) ?_;refine wpAnyH_ready (rs:=[14]) (by kernel_rfl) (by simp) ?_;refine AllReadyH.cons (o:=⟨some 139,_,_,_,_,_⟩) rfl (λK hK=>?_) AllReadyH.nil;refine ui (o:=⟨some 139,_,_,_,_,_⟩) rfl _ _ rfl w.1.size (Yj A9 f.length c9) f.length f rfl (aF (aX.out.alloc _) HO.out) ⟨W2.1.size,0,none⟩ 1 1 [(3,St.nameOf yt,yi)] rfl (eg _ _ _ _ _ (by simp) (by simp) (by simp) (by simp)) rfl (by omega) (by have:=HK.out.size;have:=aX.out.size;simp;omega) ?_;intro v' w6 pe xw hfr;have e0:=(dA xw (p:=⟨dz,q*3+1,none⟩) (by have:=aX.out.size;simp;omega) (λe=>BI e.symm)).trans (((aX.out.alloc _).cell (p:=⟨dz,q*3+1,none⟩) jn).trans p1);have e1:=(dA xw (p:=⟨dz,q*3+2,none⟩) (by have:=aX.out.size;simp;omega) (λe=>BI e.symm)).trans (((aX.out.alloc _).cell (p:=⟨dz,q*3+2,none⟩) jn).trans p2);have hrow:∀x,(Yj A9 f.length c9).ownBlock=some x->w.1.size<=x:=λx hx=>aB HO.out x hx
   have EW:=aa pe;have sy:=aa ((aF (aX.out.alloc _) HP.out).kept xw (.inr (λe=>BI e.symm)));have qI:=aa ((HG.out.ai (aX.out.alloc _)).gb xw (λx e=>Nat.le_trans hB (hrow x e)));have wF:=aa (aO (bK HK.out (aX.out.alloc _)) xw (λx e=>.inr (hrow x e)))
   have SZ:v'.ownBlock=none\/v'.ownBlock≠some dz:=by
    rcases hfr with h|h
    ·rw[h];exact .inr BI
    cases hv:v'.ownBlock with
    | none=>exact .inl rfl
    | some x=>exact .inr (λe=>by have u1:=h x hv;have u2:=aX.out.size;simp at u1 e;omega)
   clear pe xw hfr hrow HO HP HG HK;refine hK _ _ ⟨?_,?_⟩
   ·clear hK K;first|assumption|exact⟨e0,e1⟩|(refine⟨?_,?_⟩<;>(go_simp;done))
   clear hK K
   conv=>arg 8;simp only[Act.put,ax,aw,ay]
   refine kw (l':=#[bT,bT,bT,bT,bT,bT,bT,bT,bT,bT,bT,bT,bT,bT,bT,bF]) (by kernel_rfl) ?_;refine wpAnyH_take (i:=15) (oi:=⟨some 9,_,_,_,_,_⟩) (v:=?_) rfl (by kernel_rfl) (by kernel_rfl) (by kernel_rfl) (λ_ _ _ h=>h) (Or.inl ⟨by rfl,?_⟩) ?_ ?_;rotate_left 1
   ·(intro W9 l8;have NU:W9.cell? ⟨dz,q*3+1,none⟩=some (Yi ⟨yt.toArray⟩):=l8.1;have NV:W9.cell? ⟨dz,q*3+2,none⟩=some (Yh Yn yi):=l8.2;clear l8;go_simp;try with_reducible rfl)
   ·first|assumption|exact⟨e0,e1⟩|(refine⟨?_,?_⟩<;>(go_simp;done))
   conv=>arg 8;simp only[Act.put,ax,aw,ay]
   refine kw (l':=#[bT,bT,bT,bT,bT,bT,bT,bT,bT,bT,bT,bT,bT,bT,bT,bT]) (by kernel_rfl) ?_;refine wpAnyH_done (by kernel_rfl) ?_ _;go_wp2;exact⟨⟨q,_,f++[(3,St.nameOf yt,yi)],rfl,rfl,by omega,by simpa using EW.out,sy.out,SZ,BY.out,by simp;omega,by rw[cw];show aV f+(St.nameOf yt).length+5*q<=_;omega,qI.out,wF.out⟩,by first|(simp[intOf];done)|(simp[intOf];omega)⟩
theorem Jt(B g P n:Nat)(w:Ys)(hG:bp w B g P)(hP:P<=100000)(hn:n<=100) :
  Calls Tryz.prog 66 #[Yl (some ⟨g,0,none⟩),Yh Yn n,Yk true,Yk true] w (BN w B g P n):=Ju true B g P n w hG hP hn
end
