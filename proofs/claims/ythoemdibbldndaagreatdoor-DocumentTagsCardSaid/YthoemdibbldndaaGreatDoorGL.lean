/- The contract of the maker Fragment without tags: joined items of texts and placeholders. -/
import Derived.Test.YthoemdibbldndaaGreatDoorGF
import Derived.LoopN
import Derived.Test.YthoemdibbldndaaGreatDoorRdsA
import Derived.Test.YthoemdibbldndaaGreatDoorGH
import Derived.BigQuiet
import Derived.IntWalk
import Derived.Deep.RegionHeld3
import Derived.OrdersHeld
set_option linter.all false
set_option maxHeartbeats 0
set_option maxRecDepth 20000
open Go.Value renaming int->UM,string->UN,slice->UO,bool->UP,pointer->UQ
open Go.IntKind renaming i64->US
open Go.Obj renaming cells->UT
open Go.Ending renaming returned->UU
open Go renaming World->UY
namespace Go.Proofs.YthoemdibbldndaaGreatDoor
open Go.RowKit
section
def Eg(x:St.It):Prop:=x.2.2=0/\(x.1=1\/(x.1=5/\St.aB x.2.1=true))
def ti(f:List St.It):Prop:=St.Nm f/\∀x∈f,Eg x
theorem JR:ti []:=⟨St.oE,λ_ h=>by cases h⟩
theorem JQ{f:List St.It}{x:St.It}(h:ti f)(hx:Eg x):ti (St.aP f x):=by
 refine⟨St.fy h.1 x,λy hy=>?_⟩;rcases St.cG f with rfl|⟨a,b,rfl⟩
 ·rw[St.ek]at hy
  split at hy
  ·split at hy
   ·cases hy
   simp at hy;subst hy;exact⟨rfl,.inl rfl⟩
  simp at hy;subst hy;exact hx
 rw[St.cS]at hy
 split at hy
 ·split at hy
  ·exact h.2 y hy
  split at hy
  ·rcases List.mem_append.1 hy with hy|hy
   ·exact h.2 y (by simp[hy])
   simp at hy;subst hy;exact⟨rfl,.inl rfl⟩
  rcases List.mem_append.1 hy with hy|hy
  ·exact h.2 y hy
  simp at hy;subst hy;exact⟨rfl,.inl rfl⟩
 rcases List.mem_append.1 hy with hy|hy
 ·exact h.2 y hy
 simp at hy;subst hy;exact hx
def K6(w:UY)(B g P n:Nat)(s9 dZ s12:Value)(wr:UY):Prop:=∃(i k:Nat) (f:List St.It),dZ=UO none 0 0/\s12=UM US i/\k+i<=n/\wr.ownsRow w.1.size 36 3 s9 f.length (av f)/\ti f/\f.length<=k/\bc f<=18*k/\bK wr B g (P+1+9*k)/\w.grownBy wr (some g)
def LV(w:UY)(B g P n:Nat)(e:Ending)(w':UY):Prop:=∃(v:Value) (f:List St.It),e=UU v/\w'.ownsRow w.1.size 36 3 v f.length (av f)/\ti f/\f.length<=n/\bc f<=18*n/\bK w' B g (P+1+9*n)/\w.grownBy w' (some g)
theorem AJ(B g P n:Nat)(w:UY)(hG:bK w B g P)(hP:P<=100000)(hn:n<=100) :
  Calls Tryz.prog 66 #[UQ (some ⟨g,0,none⟩),UM US n,UP false,UP true] w (LV w B g P n):=by
 have HG:=aa hG;obtain⟨kw,hB⟩:=hG.lt;clear hG;go_enter Tryz.func66,Tryz.ntmps66;go_wp2_with fail;refine(cx B g P ((n:Int)+1) _ HG.out (by omega) (by omega) (by omega)).mono ?_;rintro e w2 ⟨r,rfl,hr,hG2,hk⟩;have HG2:=aa hG2;have iO:=aa hk;clear hG2 hk HG;go_wp2_with fail;go_loopw [9,10,12] (λs9 dZ s12 wr=>K6 w B g P n s9 dZ s12 wr) (λ_ _ s12 _=>(intOf s12).toNat)
 case atStart=>exact⟨r,0,[],rfl,rfl,by omega,World.ownsRow_nil _ _ _ _,JR,by simp,by simp[bc],HG2.out,iO.out⟩
 case round=>
  clear HG2 iO hr;obtain⟨i,k,f,rfl,rfl,hki,hown,fG,hfl,hft,hG,hk⟩:=hrel;have HG:=aa hG;have HK:=aa hk;have HO:=aa hown;have oP:=aa fG;clear hG hk hown fG
  by_cases hi:0<i
  ·have z:(0:Int)<(i:Int):=by omega
   obtain⟨wo,rfl⟩:∃wo:UY,wo=wr:=⟨_,rfl⟩;go_wp2_with fail;refine(Bs B g _ 3 _ HG.out (by omega) (by omega)).mono ?_;rintro e w3 ⟨t,rfl,hts,hG3,hk3⟩;have kk:=aa hG3;have gu:=aa (aW HK.out hk3 (λ_ e=>.inl e));have fi:=aa (gh HO.out hk3 (by omega));clear hG3 hk3 HG HK HO;have OC:=gu.out.size;obtain⟨A9,c9,rfl,_,_,hA9⟩:=aT fi.out;have fM:∀x,(UO A9 f.length c9).ownBlock=some x->x<w3.1.size:=λx hx=>(fi.out.lt x hx).2
   have mg:∀(W:UY) (b:Nat) (x:St.It),x.2.2=0->aO W A9 f->aO W (some ⟨b,0,none⟩) [x]->bc (f++[x])<=4611686018427387904->Calls Tryz.prog 44 #[UO A9 f.length c9,UO (some ⟨b,0,none⟩) 1 1] W λe w'=>∃v,e=UU v/\w'.ownsRow W.1.size 36 3 v (St.aP f x).length (av (St.aP f x))/\ac W w':=by
    intro W b x hx h h' ht;have:=nH A9 f.length c9 f (some ⟨b,0,none⟩) 1 1 [x] W rfl rfl (λe=>by have:=hA9 e;omega) (λe=>by cases e) h h' (by omega) ht
    rw[St.eE,oP.out.1]at this;exact this
   have dq:=aa mg;clear mg
   have fin:∀(x:St.It) (v7:Value) (w7:UY),Eg x->x.2.1.length<=18->(x.1=1\/x.1=5)->w7.ownsRow w.1.size 36 3 v7 (St.aP f x).length (av (St.aP f x))->bK w7 B g (P+1+9*(k+1))->w.grownBy w7 (some g)->K6 w B g P n v7 (UO none 0 0) (UM US ((i:Int)-1)) w7:=by
    intro x v7 w7 hg hx _ ho hG hk;have h1:=(St.l8 f x).1;have h2:=mA f x;exact⟨i-1,k+1,St.aP f x,rfl,congrArg (UM US) (by omega),by omega,ho,JQ oP.out hg,by omega,by omega,hG,hk⟩
   have gF:=aa fin;clear fin;have Dt:g<w3.1.size:=by omega
   go_wp2_with fail;refine(cx B g _ 8 _ (kk.out.ai ((ac.refl _).alloc _)) (by omega) (by omega) (by omega)).mono ?_;rintro e w4 ⟨r,rfl,hr,hG4,hk4⟩;have fx:=aa hG4;have dB:=aa (aW (cm gu.out ((ac.refl _).alloc (UT #[UM US 1,UN t,UM US 0] 36))) hk4 (λ_ e=>.inl e));have iP:=aa (gh (fi.out.alloc (UT #[UM US 1,UN t,UM US 0] 36)) hk4 (by omega));have hb4:w4.1[w3.1.size]?=some (UT #[UM US 1,UN t,UM US 0] 36 (0,0)):=(hk4.block w3.1.size (by simp) (by simp;omega)).trans (heap_alloc_new w3 _);have nh:w3.1.size<w4.1.size:=ae hb4;have d0:w4.cell? ⟨w3.1.size,0,none⟩=some (UM US 1):=ak hb4 0;have d1:w4.cell? ⟨w3.1.size,1,none⟩=some (UN t):=ak hb4 1;have d2:w4.cell? ⟨w3.1.size,2,none⟩=some (UM US 0):=ak hb4 2;haveI:af w3.1.size w4:=af.of nh;have pd:r<8:=by omega
   clear hG4 hk4 kk gu fi hr;rcases(show r=0\/r=1\/r=2\/r=3\/r=4\/r=5\/r=6\/r=7 by omega)with h|h|h|h|h|h|h|h
   ·subst h;clear pd d0 d1 d2;go_wp2_with fail;refine(cx B g _ 3 _ (fx.out.ai ((ac.refl _).alloc (UT #[UN ⟨#[110]⟩,UN ⟨#[110,97,109,101]⟩,UN ⟨#[120,49]⟩] 9))) (by omega) (by omega) (by omega)).mono ?_;rintro e w5 ⟨q,rfl,hq,fV,hk5⟩
    obtain⟨u,hu,km,hun⟩:∃u:ByteArray,(#[UN ⟨#[110]⟩,UN ⟨#[110,97,109,101]⟩,UN ⟨#[120,49]⟩]:Array Value)[q]?=some (UN u)/\u.size<=4/\St.aB u.1.1=true:=by
     rcases(show q=0\/q=1\/q=2 by omega)with h|h|h<;>subst h<;>exact⟨_,rfl,by decide,by decide⟩
    have hcell:=gw w4 w5 _ _ B g hk5 kw (by omega) q _ hu;have kt:=aa fV;have rE:=aa (aW (cm dB.out ((ac.refl _).alloc (UT #[UN ⟨#[110]⟩,UN ⟨#[110,97,109,101]⟩,UN ⟨#[120,49]⟩] 9))) hk5 (λ_ e=>.inl e));have eW:=aa (gh (iP.out.alloc (UT #[UN ⟨#[110]⟩,UN ⟨#[110,97,109,101]⟩,UN ⟨#[120,49]⟩] 9)) hk5 (by omega));have bV:w5.1[w3.1.size]?=some (UT #[UM US 1,UN t,UM US 0] 36 (0,0)):=(hk5.block w3.1.size (by simp;omega) (by simp;omega)).trans ((((ac.refl w4).alloc _).below.block w3.1.size nh).trans hb4);have f0:w5.frozen? ⟨w3.1.size,0,none⟩=false:=bk bV 0;have f1:w5.frozen? ⟨w3.1.size,1,none⟩=false:=bk bV 1;have f2:w5.frozen? ⟨w3.1.size,2,none⟩=false:=bk bV 2;have g0:w5.cell? ⟨w3.1.size,0,none⟩=some (UM US 1):=ak bV 0;have g1:w5.cell? ⟨w3.1.size,1,none⟩=some (UN t):=ak bV 1;have g2:w5.cell? ⟨w3.1.size,2,none⟩=some (UM US 0):=ak bV 2;haveI:af w3.1.size w5:=af.of (ae bV);haveI:af w4.1.size w5:=af.of (cM _ _ hcell);have LJ:q<3:=by omega
    have hob:(UO A9 f.length c9).ownBlock≠some w3.1.size:=λe=>by have:=fM _ e;omega
    have hkey:∀W,W=((w5.setCell ⟨w3.1.size,0,none⟩ (UM US 5)).setCell ⟨w3.1.size,1,none⟩ (UN u)).setCell ⟨w3.1.size,2,none⟩ (UM US 0)->W.ownsRow w.1.size 36 3 (UO A9 f.length c9) f.length (av f)/\bK W B g (P+1+9*(k+1))/\w.grownBy W (some g):=by
     intro W hW;subst hW;refine⟨aA (aA (aA eW.out hob) hob) hob,?_,bO (bO (bO rE.out _ _ (.inr (by show w.1.size<=w3.1.size;omega))) _ _ (.inr (by show w.1.size<=w3.1.size;omega))) _ _ (.inr (by show w.1.size<=w3.1.size;omega))⟩;have hBb:∀x,some w3.1.size=some x->B<=x:=λx e=>by cases e;omega
     exact(((kt.out.gb (cK w5 ⟨w3.1.size,0,none⟩ _) hBb).gb (cK _ ⟨w3.1.size,1,none⟩ _) hBb).gb (cK _ ⟨w3.1.size,2,none⟩ _) hBb).le (by omega)
    have HKEY:=aa (hkey _ rfl);have wU:=HKEY.out.2.1.lt.2;clear fV hk5 fx dB iP hkey hu hq;go_wp2_with fail;refine(dq.out _ _ (5,u.1.1,0) rfl ?_ ?_ ?_).mono ?_
    ·exact(aX HKEY.out.1 rfl).ai ((ac.refl _).alloc _)
    ·rw[<-be u];exact fl _ _ _ _ (by simp) (by rw[World.cell?_alloc_at _ _ _ _ (by simp)];rfl) (by rw[World.cell?_alloc_at _ _ _ _ (by simp)];rfl) (by rw[World.cell?_alloc_at _ _ _ _ (by simp)];rfl)
    ·rw[cR];simp;omega
    rintro e w7 ⟨v7,rfl,dH,cf⟩;have hrel:=gF.out (5,u.1.1,0) v7 w7 ⟨rfl,.inr ⟨rfl,hun⟩⟩ (by simp;omega) (.inr rfl) (dy dH (by have:=HKEY.out.2.2.size;simp at this |-;omega)) ((HKEY.out.2.1.ai ((ac.refl _).alloc _)).ai cf) (cm HKEY.out.2.2 (((ac.refl _).alloc _).trans cf));have bP:=aa hrel;clear hrel dH cf hcell;go_wp2;exact⟨bP.out,by simp[intOf];omega⟩
   ·subst h;clear pd d0 d1 d2;go_wp2_with fail;refine(cx B g _ 3 _ (fx.out.ai ((ac.refl _).alloc (UT #[UN ⟨#[110]⟩,UN ⟨#[110,97,109,101]⟩,UN ⟨#[120,49]⟩] 9))) (by omega) (by omega) (by omega)).mono ?_;rintro e w5 ⟨q,rfl,hq,fV,hk5⟩
    obtain⟨u,hu,km,hun⟩:∃u:ByteArray,(#[UN ⟨#[110]⟩,UN ⟨#[110,97,109,101]⟩,UN ⟨#[120,49]⟩]:Array Value)[q]?=some (UN u)/\u.size<=4/\St.aB u.1.1=true:=by
     rcases(show q=0\/q=1\/q=2 by omega)with h|h|h<;>subst h<;>exact⟨_,rfl,by decide,by decide⟩
    have hcell:=gw w4 w5 _ _ B g hk5 kw (by omega) q _ hu;have kt:=aa fV;have rE:=aa (aW (cm dB.out ((ac.refl _).alloc (UT #[UN ⟨#[110]⟩,UN ⟨#[110,97,109,101]⟩,UN ⟨#[120,49]⟩] 9))) hk5 (λ_ e=>.inl e));have eW:=aa (gh (iP.out.alloc (UT #[UN ⟨#[110]⟩,UN ⟨#[110,97,109,101]⟩,UN ⟨#[120,49]⟩] 9)) hk5 (by omega));have bV:w5.1[w3.1.size]?=some (UT #[UM US 1,UN t,UM US 0] 36 (0,0)):=(hk5.block w3.1.size (by simp;omega) (by simp;omega)).trans ((((ac.refl w4).alloc _).below.block w3.1.size nh).trans hb4);have f0:w5.frozen? ⟨w3.1.size,0,none⟩=false:=bk bV 0;have f1:w5.frozen? ⟨w3.1.size,1,none⟩=false:=bk bV 1;have f2:w5.frozen? ⟨w3.1.size,2,none⟩=false:=bk bV 2;have g0:w5.cell? ⟨w3.1.size,0,none⟩=some (UM US 1):=ak bV 0;have g1:w5.cell? ⟨w3.1.size,1,none⟩=some (UN t):=ak bV 1;have g2:w5.cell? ⟨w3.1.size,2,none⟩=some (UM US 0):=ak bV 2;haveI:af w3.1.size w5:=af.of (ae bV);haveI:af w4.1.size w5:=af.of (cM _ _ hcell);have LJ:q<3:=by omega
    have hob:(UO A9 f.length c9).ownBlock≠some w3.1.size:=λe=>by have:=fM _ e;omega
    have hkey:∀W,W=((w5.setCell ⟨w3.1.size,0,none⟩ (UM US 5)).setCell ⟨w3.1.size,1,none⟩ (UN u)).setCell ⟨w3.1.size,2,none⟩ (UM US 0)->W.ownsRow w.1.size 36 3 (UO A9 f.length c9) f.length (av f)/\bK W B g (P+1+9*(k+1))/\w.grownBy W (some g):=by
     intro W hW;subst hW;refine⟨aA (aA (aA eW.out hob) hob) hob,?_,bO (bO (bO rE.out _ _ (.inr (by show w.1.size<=w3.1.size;omega))) _ _ (.inr (by show w.1.size<=w3.1.size;omega))) _ _ (.inr (by show w.1.size<=w3.1.size;omega))⟩;have hBb:∀x,some w3.1.size=some x->B<=x:=λx e=>by cases e;omega
     exact(((kt.out.gb (cK w5 ⟨w3.1.size,0,none⟩ _) hBb).gb (cK _ ⟨w3.1.size,1,none⟩ _) hBb).gb (cK _ ⟨w3.1.size,2,none⟩ _) hBb).le (by omega)
    have HKEY:=aa (hkey _ rfl);have wU:=HKEY.out.2.1.lt.2;clear fV hk5 fx dB iP hkey hu hq;go_wp2_with fail;refine(dq.out _ _ (5,u.1.1,0) rfl ?_ ?_ ?_).mono ?_
    ·exact(aX HKEY.out.1 rfl).ai ((ac.refl _).alloc _)
    ·rw[<-be u];exact fl _ _ _ _ (by simp) (by rw[World.cell?_alloc_at _ _ _ _ (by simp)];rfl) (by rw[World.cell?_alloc_at _ _ _ _ (by simp)];rfl) (by rw[World.cell?_alloc_at _ _ _ _ (by simp)];rfl)
    ·rw[cR];simp;omega
    rintro e w7 ⟨v7,rfl,dH,cf⟩;have hrel:=gF.out (5,u.1.1,0) v7 w7 ⟨rfl,.inr ⟨rfl,hun⟩⟩ (by simp;omega) (.inr rfl) (dy dH (by have:=HKEY.out.2.2.size;simp at this |-;omega)) ((HKEY.out.2.1.ai ((ac.refl _).alloc _)).ai cf) (cm HKEY.out.2.2 (((ac.refl _).alloc _).trans cf));have bP:=aa hrel;clear hrel dH cf hcell;go_wp2;exact⟨bP.out,by simp[intOf];omega⟩
   ·subst h;clear pd hb4;go_wp2_with fail;refine(dq.out _ _ (1,t.1.1,0) rfl ?_ ?_ ?_).mono ?_
    ·exact(aX iP.out rfl).ai ((ac.refl _).alloc _)
    ·rw[<-be t];exact fl _ _ _ _ (by simp) (by simp) (by simp) (by simp)
    ·rw[cR];simp;omega
    rintro e w7 ⟨v7,rfl,dH,cf⟩;have hrel:=gF.out (1,t.1.1,0) v7 w7 ⟨rfl,.inl rfl⟩ (by simp;omega) (.inl rfl) (dy dH (by have:=dB.out.size;simp at this |-;omega)) (((fx.out.ai ((ac.refl _).alloc _)).ai cf).le (by omega)) (cm dB.out (((ac.refl _).alloc _).trans cf));have bP:=aa hrel;clear hrel dH cf d0 d1 d2;go_wp2;exact⟨bP.out,by simp[intOf];omega⟩
   ·subst h;clear pd hb4;go_wp2_with fail;refine(dq.out _ _ (1,t.1.1,0) rfl ?_ ?_ ?_).mono ?_
    ·exact(aX iP.out rfl).ai ((ac.refl _).alloc _)
    ·rw[<-be t];exact fl _ _ _ _ (by simp) (by simp) (by simp) (by simp)
    ·rw[cR];simp;omega
    rintro e w7 ⟨v7,rfl,dH,cf⟩;have hrel:=gF.out (1,t.1.1,0) v7 w7 ⟨rfl,.inl rfl⟩ (by simp;omega) (.inl rfl) (dy dH (by have:=dB.out.size;simp at this |-;omega)) (((fx.out.ai ((ac.refl _).alloc _)).ai cf).le (by omega)) (cm dB.out (((ac.refl _).alloc _).trans cf));have bP:=aa hrel;clear hrel dH cf d0 d1 d2;go_wp2;exact⟨bP.out,by simp[intOf];omega⟩
   ·subst h;clear pd hb4;go_wp2_with fail;refine(dq.out _ _ (1,t.1.1,0) rfl ?_ ?_ ?_).mono ?_
    ·exact(aX iP.out rfl).ai ((ac.refl _).alloc _)
    ·rw[<-be t];exact fl _ _ _ _ (by simp) (by simp) (by simp) (by simp)
    ·rw[cR];simp;omega
    rintro e w7 ⟨v7,rfl,dH,cf⟩;have hrel:=gF.out (1,t.1.1,0) v7 w7 ⟨rfl,.inl rfl⟩ (by simp;omega) (.inl rfl) (dy dH (by have:=dB.out.size;simp at this |-;omega)) (((fx.out.ai ((ac.refl _).alloc _)).ai cf).le (by omega)) (cm dB.out (((ac.refl _).alloc _).trans cf));have bP:=aa hrel;clear hrel dH cf d0 d1 d2;go_wp2;exact⟨bP.out,by simp[intOf];omega⟩
   ·subst h;clear pd hb4;go_wp2_with fail;refine(dq.out _ _ (1,t.1.1,0) rfl ?_ ?_ ?_).mono ?_
    ·exact(aX iP.out rfl).ai ((ac.refl _).alloc _)
    ·rw[<-be t];exact fl _ _ _ _ (by simp) (by simp) (by simp) (by simp)
    ·rw[cR];simp;omega
    rintro e w7 ⟨v7,rfl,dH,cf⟩;have hrel:=gF.out (1,t.1.1,0) v7 w7 ⟨rfl,.inl rfl⟩ (by simp;omega) (.inl rfl) (dy dH (by have:=dB.out.size;simp at this |-;omega)) (((fx.out.ai ((ac.refl _).alloc _)).ai cf).le (by omega)) (cm dB.out (((ac.refl _).alloc _).trans cf));have bP:=aa hrel;clear hrel dH cf d0 d1 d2;go_wp2;exact⟨bP.out,by simp[intOf];omega⟩
   ·subst h;clear pd hb4;go_wp2_with fail;refine(dq.out _ _ (1,t.1.1,0) rfl ?_ ?_ ?_).mono ?_
    ·exact(aX iP.out rfl).ai ((ac.refl _).alloc _)
    ·rw[<-be t];exact fl _ _ _ _ (by simp) (by simp) (by simp) (by simp)
    ·rw[cR];simp;omega
    rintro e w7 ⟨v7,rfl,dH,cf⟩;have hrel:=gF.out (1,t.1.1,0) v7 w7 ⟨rfl,.inl rfl⟩ (by simp;omega) (.inl rfl) (dy dH (by have:=dB.out.size;simp at this |-;omega)) (((fx.out.ai ((ac.refl _).alloc _)).ai cf).le (by omega)) (cm dB.out (((ac.refl _).alloc _).trans cf));have bP:=aa hrel;clear hrel dH cf d0 d1 d2;go_wp2;exact⟨bP.out,by simp[intOf];omega⟩
   subst h;clear pd hb4;go_wp2_with fail;refine(dq.out _ _ (1,t.1.1,0) rfl ?_ ?_ ?_).mono ?_
   ·exact(aX iP.out rfl).ai ((ac.refl _).alloc _)
   ·rw[<-be t];exact fl _ _ _ _ (by simp) (by simp) (by simp) (by simp)
   ·rw[cR];simp;omega
   rintro e w7 ⟨v7,rfl,dH,cf⟩;have hrel:=gF.out (1,t.1.1,0) v7 w7 ⟨rfl,.inl rfl⟩ (by simp;omega) (.inl rfl) (dy dH (by have:=dB.out.size;simp at this |-;omega)) (((fx.out.ai ((ac.refl _).alloc _)).ai cf).le (by omega)) (cm dB.out (((ac.refl _).alloc _).trans cf));have bP:=aa hrel;clear hrel dH cf d0 d1 d2;go_wp2;exact⟨bP.out,by simp[intOf];omega⟩
  have z:¬(0:Int)<(i:Int):=by omega
  have z0:i=0:=by omega
  subst z0;go_wp2_with fail;refine wp_loop_rounds 1 ?_;rw[rounds_succ];go_wp2;go_ret;exact⟨_,f,rfl,HO.out,oP.out,by omega,by omega,HG.out.le (by omega),HK.out⟩
end
section
theorem dk{P:Program}{md:Region.Mode}{ops:Array Oper}{Q:Exit->Act->UY->Prop}{fuel:Nat}{l l':Array Bool}{a:Act}{w:UY}(h:l=l')(hw:wpAny P md ops Q fuel l' a w):wpAny P md ops Q fuel l a w:=by subst h;exact hw
theorem nC{ops:Array Oper}{o:Oper}{a:Act}{w:UY}{K:Act->UY->Prop}{Q:Exit->Act->UY->Prop}{E:Prop}(hgd:o.guard=none)(s x:Operand)
  (ho:o.op=.call { callee:=.builtin .append,args:=#[s,x],argTypes:=#[37,37] })
  (base:Nat) (v:Value) (n:Nat) (O:List St.It) (hs:a.eval s=v) (hown:w.ownsRow base 36 3 v n (av O))
  (ad:Addr) (m c:Nat) (f:List St.It) (hx:a.eval x=UO (some ad) m c) (hI:aO w (some ad) f) (hm:f.length=m) (h63:n+m<=200000) (hbase:base<=w.1.size)
  (h:∀v' w',w'.ownsRow base 36 3 v' (n+m) (av (O++f))->w.grownBy w' v.ownBlock->K (a.put o.dst v') w'):if Region.wanted o (yielded ops a.tmps)=true then Oper.wp Tryz.prog o a w K Q else E:=by
 obtain⟨i0,hi,hz0,hz1,hz2⟩:=info_parts dw;refine cH hgd s x 37 ho base 36 i0 (.agg #[.int .i64 0,.string ⟨#[]⟩,.int .i64 0]) 3 32 Tryz.underlying37 hi hz0 hz1 hz2 rfl (by decide) v n _ hs hown ad m c (av f) hx (by rw[jF,hm]) hI.cells (pF f) (by unfold maxLen;omega) (by omega) hbase ?_;intro v' w' ho' hg _;exact h v' w' (by rw[l9];exact ho') hg
theorem Fl{w:UY}{b off:Nat}{f:List St.It}(h:aO w (some ⟨b,off,none⟩) f)(q:Nat):aO w (some ⟨b,off+q*3,none⟩) (f.drop q):=by
 intro h0;simp at h0;obtain⟨b',off',e,hb,hc⟩:=h (by omega);obtain⟨rfl,rfl⟩:b=b'/\off=off':=by simp at e;exact e
 refine⟨b,off+q*3,rfl,hb,λj hj=>?_⟩;simp at hj;have:=hc (q+j) (by omega)
 simp only[List.getElem_drop];rw[show off+q*3+j*3=off+(q+j)*3 by omega];exact this
theorem tU{P:Program}{ops:Array Oper}{o:Oper}{a:Act}{w:UY}{K:Act->UY->Prop}{Q:Exit->Act->UY->Prop}{E:Prop}
  (hg:o.guard=none) (f:FuncId) (args:Array Value) (Po:Ending->UY->Prop) (hc:Calls P f args w Po)
  (hrun:(execOp a.eval o).run P w=.ok (.enter f args) w) (hK:∀e w',Po e w'->∃v,e=UU v/\K (a.put o.dst v) w') :
  if Region.wanted o (yielded ops a.tmps)=true then Oper.wp P o a w K Q else E:=by
 have hw:Region.wanted o (yielded ops a.tmps)=true:=by simp[Region.wanted,hg]
 rw[if_pos hw];unfold Oper.wp;rw[hrun];refine hc.mono ?_;intro e w' hp;obtain⟨v,rfl,hk⟩:=hK e w' hp;exact hk
theorem NH{W':UY}{H e e' n n' b:Nat}{v9 v10:Value}{xs xs':List Value}{w2:UY}(h9:W'.ownsRow H e 3 v9 n xs)(h10:w2.ownsRow b e' 3 v10 n' xs')(hH:w2.1.size<=H):v9.ownBlock=none\/v9.ownBlock≠v10.ownBlock:=by
 cases h:v9.ownBlock with
 | none=>exact .inl rfl
 | some x=>
  refine .inr λe=>?_
  have h1:=aG h9 x h;have h2:=(h10.lt x e.symm).2;omega
def K7(w:UY)(B g P n:Nat)(ns:Bool)(s9 dZ gi s12:Value)(wr:UY):Prop:=∃(i k c:Nat) (f op:List St.It),s12=UM US i/\gi=UM US c/\k+i<=n/\wr.ownsRow w.1.size 36 3 s9 f.length (av f)/\wr.ownsRow w.1.size 36 3 dZ op.length (av op)/\(s9.ownBlock=none\/s9.ownBlock≠dZ.ownBlock)/\St.eH ns f op c/\f.length<=k/\op.length<=k/\c<=k/\bc f<=18*k/\bK wr B g (P+1+9*k)/\w.grownBy wr (some g)
def Jd(w:UY)(B g P n:Nat)(ns:Bool)(e:Ending)(w':UY):Prop:=∃(v:Value) (f op:List St.It) (c:Nat),e=UU v/\w'.ownsRow w.1.size 36 3 v f.length (av f)/\St.eH ns f op c/\f.length<=n/\bc f<=18*n/\bK w' B g (P+1+9*n)/\w.grownBy w' (some g)
end
section
theorem jX{P:Program}{md:Region.Mode}{ops:Array Oper}{Q:Exit->Act->UY->Prop}{S:UY->Prop}{fuel:Nat}{l l':Array Bool}{a:Act}{w:UY}(h:l=l')(hw:wpAnyH P md ops Q S fuel l' a w):wpAnyH P md ops Q S fuel l a w:=by subst h;exact hw
theorem sY{ops:Array Oper}{o:Oper}{a:Act}{w:UY}{K:Act->UY->Prop}{Q:Exit->Act->UY->Prop}{E:Prop}(hgd:o.guard=none)(s x:Operand)
  (ho:o.op=.call { callee:=.builtin .append,args:=#[s,x],argTypes:=#[37,37] })
  (base:Nat) (v:Value) (n:Nat) (O:List St.It) (hs:a.eval s=v) (hown:w.ownsRow base 36 3 v n (av O))
  (ad:Addr) (m c:Nat) (f:List St.It) (hx:a.eval x=UO (some ad) m c) (hI:aO w (some ad) f) (hm:f.length=m) (h63:n+m<=200000) (hbase:base<=w.1.size)
  (h:∀v' w',w'.ownsRow base 36 3 v' (n+m) (av (O++f))->w.grownBy w' v.ownBlock->oM w v v'->K (a.put o.dst v') w'):if Region.wanted o (yielded ops a.tmps)=true then Oper.wp Tryz.prog o a w K Q else E:=by
 obtain⟨i0,hi,hz0,hz1,hz2⟩:=info_parts dw;refine jh hgd s x 37 ho base 36 i0 (.agg #[.int .i64 0,.string ⟨#[]⟩,.int .i64 0]) 3 32 Tryz.underlying37 hi hz0 hz1 hz2 rfl (by decide) v n _ hs hown ad m c (av f) hx (by rw[jF,hm]) hI.cells (pF f) (by unfold maxLen;omega) (by omega) hbase ?_;intro v' w' ho' hg hf;exact h v' w' (by rw[l9];exact ho') hg hf
theorem JO{f op:List St.It}{c q:Nat}(h:St.eH true f (op.take (q+1)) c)(hq:q<op.length):St.eH true (f++[(3,St.nameOf op[q].2.1,op[q].2.2)]) (op.take q) c:=by
 have hl:(op.take (q+1)).length=q+1:=by simp;omega
 have:=St.eH.closed (ns:=true) q (by omega) (λ_=>hl.symm) h
 rw[St.fW (show(3:Int)≠1 by decide)]at this;have e1:(op.take (q+1))[q]'(by omega)=op[q]:=by simp
 have e2:(op.take (q+1)).take q++(op.take (q+1)).drop (q+1)=op.take q:=by
  rw[List.drop_of_length_le (by omega),List.append_nil,List.take_take];congr 1;omega
 rw[e1,e2]at this;exact this
def Pm(w:UY)(B g P n:Nat)(op:List St.It)(v10:Value)(c:Nat)(s9 oI:Value)(wr:UY):Prop:=∃(j:Nat) (z:Int) (f:List St.It),oI=UM US z/\z=(j:Int)-1/\j<=op.length/\wr.ownsRow w.1.size 36 3 s9 f.length (av f)/\wr.ownsRow w.1.size 36 3 v10 op.length (av op)/\(s9.ownBlock=none\/s9.ownBlock≠v10.ownBlock)/\St.eH true f (op.take j) c/\f.length+j<=2*n/\bc f+5*j<=23*n/\bK wr B g (P+1+9*n)/\w.grownBy wr (some g)
def zP(w:UY)(B g P n:Nat)(e:Ending)(w':UY):Prop:=∃(v:Value) (f:List St.It) (c:Nat),e=UU v/\w'.ownsRow w.1.size 36 3 v f.length (av f)/\St.eH true f [] c/\f.length<=2*n/\bc f<=23*n/\c<=n/\bK w' B g (P+1+9*n)/\w.grownBy w' (some g)
def Jc(w:UY)(B g P n:Nat)(ns:Bool)(e:Ending)(w':UY):Prop:=cond ns (zP w B g P n e w') (Jd w B g P n false e w')
theorem GZ(ns:Bool)(B g P n:Nat)(w:UY)(hG:bK w B g P)(hP:P<=100000)(hn:n<=100) :
  Calls Tryz.prog 66 #[UQ (some ⟨g,0,none⟩),UM US n,UP true,UP ns] w (Jc w B g P n ns):=by
 have HG:=aa hG;obtain⟨kw,hB⟩:=hG.lt;obtain⟨i0,hi,hz0,hz1,hz2⟩:=info_parts dw;clear hG;go_enter Tryz.func66,Tryz.ntmps66;go_wp2_with fail;refine(cx B g P ((n:Int)+1) _ HG.out (by omega) (by omega) (by omega)).mono ?_;rintro e w2 ⟨r,rfl,hr,hG2,hk⟩;have HG2:=aa hG2;have iO:=aa hk;clear hG2 hk HG;go_wp2_with fail;go_loopw [9,10,11,12] (λs9 dZ gi s12 wr=>K7 w B g P n ns s9 dZ gi s12 wr) (λ_ _ _ s12 _=>(intOf s12).toNat)
 case atStart=>exact⟨r,0,0,[],[],rfl,rfl,by omega,World.ownsRow_nil _ _ _ _,World.ownsRow_nil _ _ _ _,.inl rfl,.nil,by simp,by simp,by omega,by simp[bc],HG2.out,iO.out⟩
 case round=>
  clear HG2 iO hr;obtain⟨i,k,c,f,op,rfl,rfl,hki,hown,hownp,hU,lL,hfl,hol,jk,hft,hG,hk⟩:=hrel;have HG:=aa hG;have HK:=aa hk;have HO:=aa hown;have HP:=aa hownp;have HD:=aa hU;have iN:=aa lL;clear hG hk hown hownp hU lL
  by_cases Ur:0<i
  ·have z:(0:Int)<(i:Int):=by omega
   obtain⟨wo,rfl⟩:∃wo:UY,wo=wr:=⟨_,rfl⟩;go_wp2_with fail;refine(Bs B g _ 3 _ HG.out (by omega) (by omega)).mono ?_;rintro e w3 ⟨t,rfl,hts,hG3,hk3⟩;have kk:=aa hG3;have gu:=aa (aW HK.out hk3 (λ_ e=>.inl e));have fi:=aa (gh HO.out hk3 (by omega));have xG:=aa (gh HP.out hk3 (by omega));clear hG3 hk3 HG HK HO HP;have OC:=gu.out.size;obtain⟨A9,c9,rfl,_,_,hA9⟩:=aT fi.out;obtain⟨fT,bB,rfl,h10c,h10m,hA10⟩:=aT xG.out;have fM:∀x,(UO A9 f.length c9).ownBlock=some x->x<w3.1.size:=λx hx=>(fi.out.lt x hx).2
   have vD:∀x,(UO fT op.length bB).ownBlock=some x->x<w3.1.size:=λx hx=>(xG.out.lt x hx).2
   have mg:∀(W:UY) (b:Nat) (x:St.It),aO W A9 f->aO W (some ⟨b,0,none⟩) [x]->bc (f++[x])<=4611686018427387904->Calls Tryz.prog 44 #[UO A9 f.length c9,UO (some ⟨b,0,none⟩) 1 1] W λe w'=>∃v,e=UU v/\w'.ownsRow W.1.size 36 3 v (St.aP f x).length (av (St.aP f x))/\ac W w':=by
    intro W b x h h' ht;have:=nH A9 f.length c9 f (some ⟨b,0,none⟩) 1 1 [x] W rfl rfl (λe=>by have:=hA9 e;omega) (λe=>by cases e) h h' (by omega) ht
    rw[St.eE,iN.out.nm]at this;exact this
   have dq:=aa mg;clear mg
   have fin:∀(x:St.It) (v7 v10:Value) (w6 w7:UY) (b7:List St.It) (c':Nat) (gi:Value),gi=UM US (c':Nat)->St.eH ns (St.aP f x) b7 c'->x.2.1.length<=18->b7.length<=op.length+1->c'<=c+1->w7.ownsRow w6.1.size 36 3 v7 (St.aP f x).length (av (St.aP f x))->w6.ownsRow w.1.size 36 3 v10 b7.length (av b7)->ac w6 w7->w.1.size<=w6.1.size->bK w7 B g (P+1+9*(k+1))->w.grownBy w7 (some g)->K7 w B g P n ns v7 v10 gi (UM US ((i:Int)-1)) w7:=by
    intro x v7 v10 w6 w7 b7 c' gi RW hg hx ho' hc' dH lN cf hwz hG hk;have h1:=(St.l8 f x).1;have h2:=mA f x;exact⟨i-1,k+1,c',St.aP f x,b7,congrArg (UM US) (by omega),RW,by omega,dy dH hwz,aE cf lN,NH dH lN (Nat.le_refl _),hg,by omega,by omega,by omega,by omega,hG,hk⟩
   have gF:=aa fin;clear fin;have Dt:g<w3.1.size:=by omega
   go_wp2_with fail;refine(cx B g _ 8 _ (kk.out.ai ((ac.refl _).alloc _)) (by omega) (by omega) (by omega)).mono ?_;rintro e w4 ⟨r,rfl,hr,hG4,hk4⟩;have fx:=aa hG4;have dB:=aa (aW (cm gu.out ((ac.refl _).alloc (UT #[UM US 1,UN t,UM US 0] 36))) hk4 (λ_ e=>.inl e));have iP:=aa (gh (fi.out.alloc (UT #[UM US 1,UN t,UM US 0] 36)) hk4 (by omega));have pV:=aa (gh (xG.out.alloc (UT #[UM US 1,UN t,UM US 0] 36)) hk4 (by omega));have hb4:w4.1[w3.1.size]?=some (UT #[UM US 1,UN t,UM US 0] 36 (0,0)):=(hk4.block w3.1.size (by simp) (by simp;omega)).trans (heap_alloc_new w3 _);have nh:w3.1.size<w4.1.size:=ae hb4;have d0:w4.cell? ⟨w3.1.size,0,none⟩=some (UM US 1):=ak hb4 0;have d1:w4.cell? ⟨w3.1.size,1,none⟩=some (UN t):=ak hb4 1;have d2:w4.cell? ⟨w3.1.size,2,none⟩=some (UM US 0):=ak hb4 2;haveI:af w3.1.size w4:=af.of nh;have pd:r<8:=by omega
   clear hG4 hk4 kk gu fi xG hr;rcases(show(r=0\/r=1)\/r=2\/(r=3\/r=4)\/(r=5\/r=6)\/r=7 by omega)with h|h|h|h|h
   ·rcases h with h|h
    all_goals
     subst h;clear pd d0 d1 d2;go_wp2_with fail;refine(cx B g _ 3 _ (fx.out.ai ((ac.refl _).alloc (UT #[UN ⟨#[110]⟩,UN ⟨#[110,97,109,101]⟩,UN ⟨#[120,49]⟩] 9))) (by omega) (by omega) (by omega)).mono ?_;rintro e w5 ⟨q,rfl,hq,fV,hk5⟩
     obtain⟨u,hu,km,hun⟩:∃u:ByteArray,(#[UN ⟨#[110]⟩,UN ⟨#[110,97,109,101]⟩,UN ⟨#[120,49]⟩]:Array Value)[q]?=some (UN u)/\u.size<=5/\St.aB u.1.1=true:=by
      rcases(show q=0\/q=1\/q=2 by omega)with h|h|h<;>subst h<;>exact⟨_,rfl,by decide,by decide⟩
     have hcell:=gw w4 w5 _ _ B g hk5 kw (by omega) q _ hu;have kt:=aa fV;have rE:=aa (aW (cm dB.out ((ac.refl _).alloc (UT #[UN ⟨#[110]⟩,UN ⟨#[110,97,109,101]⟩,UN ⟨#[120,49]⟩] 9))) hk5 (λ_ e=>.inl e));have eW:=aa (gh (iP.out.alloc (UT #[UN ⟨#[110]⟩,UN ⟨#[110,97,109,101]⟩,UN ⟨#[120,49]⟩] 9)) hk5 (by omega));have rY:=aa (gh (pV.out.alloc (UT #[UN ⟨#[110]⟩,UN ⟨#[110,97,109,101]⟩,UN ⟨#[120,49]⟩] 9)) hk5 (by omega));have bV:w5.1[w3.1.size]?=some (UT #[UM US 1,UN t,UM US 0] 36 (0,0)):=(hk5.block w3.1.size (by simp;omega) (by simp;omega)).trans ((((ac.refl w4).alloc _).below.block w3.1.size nh).trans hb4);haveI:af w4.1.size w5:=af.of (cM _ _ hcell);have LJ:q<3:=by omega
     have f0:w5.frozen? ⟨w3.1.size,0,none⟩=false:=bk bV 0;have f1:w5.frozen? ⟨w3.1.size,1,none⟩=false:=bk bV 1;have f2:w5.frozen? ⟨w3.1.size,2,none⟩=false:=bk bV 2;have g0:w5.cell? ⟨w3.1.size,0,none⟩=some (UM US 1):=ak bV 0;have g1:w5.cell? ⟨w3.1.size,1,none⟩=some (UN t):=ak bV 1;have g2:w5.cell? ⟨w3.1.size,2,none⟩=some (UM US 0):=ak bV 2;haveI:af w3.1.size w5:=af.of (ae bV);have hob:(UO A9 f.length c9).ownBlock≠some w3.1.size:=λe=>by have:=fM _ e;omega
     have iC:(UO fT op.length bB).ownBlock≠some w3.1.size:=λe=>by have:=vD _ e;omega
     have hkey:∀W,W=((w5.setCell ⟨w3.1.size,0,none⟩ (UM US 5)).setCell ⟨w3.1.size,1,none⟩ (UN u)).setCell ⟨w3.1.size,2,none⟩ (UM US 0)->W.ownsRow w.1.size 36 3 (UO A9 f.length c9) f.length (av f)/\W.ownsRow w.1.size 36 3 (UO fT op.length bB) op.length (av op)/\bK W B g (P+1+9*(k+1))/\w.grownBy W (some g)/\W.1.size=w5.1.size/\W.1[w3.1.size]?=some (UT #[UM US 5,UN u,UM US 0] 36 (0,0)):=by
      intro W hW;subst hW;have hBb:∀x,some w3.1.size=some x->B<=x:=λx e=>by cases e;omega
      refine⟨aA (aA (aA eW.out hob) hob) hob,aA (aA (aA rY.out iC) iC) iC,?_,bO (bO (bO rE.out _ _ (.inr (by show w.1.size<=w3.1.size;omega))) _ _ (.inr (by show w.1.size<=w3.1.size;omega))) _ _ (.inr (by show w.1.size<=w3.1.size;omega)),by simp,heap_setCell_same _ w3.1.size 2 _ _ _ (heap_setCell_same _ w3.1.size 1 _ _ _ (heap_setCell_same w5 w3.1.size 0 _ _ _ bV))⟩;exact(((kt.out.gb (cK w5 ⟨w3.1.size,0,none⟩ _) hBb).gb (cK _ ⟨w3.1.size,1,none⟩ _) hBb).gb (cK _ ⟨w3.1.size,2,none⟩ _) hBb).le (by omega)
     have HKEY:=aa (hkey _ rfl);have wU:=HKEY.out.2.2.1.lt.2;clear fV hk5 fx dB iP pV hkey hu hq;go_wp2_with fail;refine(dq.out _ _ (5,u.1.1,0) ?_ ?_ ?_).mono ?_
     ·exact(aX HKEY.out.1 rfl).ai ((ac.refl _).alloc _)
     ·rw[<-be u];exact fl _ _ _ _ (by simp) (by rw[World.cell?_alloc_at _ _ _ _ (by simp)];rfl) (by rw[World.cell?_alloc_at _ _ _ _ (by simp)];rfl) (by rw[World.cell?_alloc_at _ _ _ _ (by simp)];rfl)
     ·rw[cR];simp;omega
     rintro e w7 ⟨v7,rfl,dH,cf⟩;have hrel:=gF.out (5,u.1.1,0) v7 _ _ w7 op c _ rfl (iN.out.slot _ hun) (by simp;omega) (by omega) (by omega) dH (HKEY.out.2.1.alloc _) cf (by have:=HKEY.out.2.2.2.1.size;simp at this |-;omega) ((HKEY.out.2.2.1.ai ((ac.refl _).alloc _)).ai cf) (cm HKEY.out.2.2.2.1 (((ac.refl _).alloc _).trans cf));have bP:=aa hrel;clear hrel dH cf hcell;go_wp2;exact⟨bP.out,by simp[intOf];omega⟩
   ·subst h;clear pd d0 d1 d2;go_wp2_with fail;refine(cx B g _ 2 _ (fx.out.ai ((ac.refl _).alloc (UT #[UN ⟨#[98,114]⟩,UN ⟨#[105,109,103,32,97]⟩] 9))) (by omega) (by omega) (by omega)).mono ?_;rintro e w5 ⟨q,rfl,hq,fV,hk5⟩
    obtain⟨u,hu,km,hun⟩:∃u:ByteArray,(#[UN ⟨#[98,114]⟩,UN ⟨#[105,109,103,32,97]⟩]:Array Value)[q]?=some (UN u)/\u.size<=5/\u.1.1∈St.D9:=by
     rcases(show q=0\/q=1 by omega)with h|h<;>subst h<;>exact⟨_,rfl,by decide,by decide⟩
    have hcell:=gw w4 w5 _ _ B g hk5 kw (by omega) q _ hu;have kt:=aa fV;have rE:=aa (aW (cm dB.out ((ac.refl _).alloc (UT #[UN ⟨#[98,114]⟩,UN ⟨#[105,109,103,32,97]⟩] 9))) hk5 (λ_ e=>.inl e));have eW:=aa (gh (iP.out.alloc (UT #[UN ⟨#[98,114]⟩,UN ⟨#[105,109,103,32,97]⟩] 9)) hk5 (by omega));have rY:=aa (gh (pV.out.alloc (UT #[UN ⟨#[98,114]⟩,UN ⟨#[105,109,103,32,97]⟩] 9)) hk5 (by omega));have bV:w5.1[w3.1.size]?=some (UT #[UM US 1,UN t,UM US 0] 36 (0,0)):=(hk5.block w3.1.size (by simp;omega) (by simp;omega)).trans ((((ac.refl w4).alloc _).below.block w3.1.size nh).trans hb4);haveI:af w4.1.size w5:=af.of (cM _ _ hcell);have LJ:q<2:=by omega
    have f0:w5.frozen? ⟨w3.1.size,0,none⟩=false:=bk bV 0;have f1:w5.frozen? ⟨w3.1.size,1,none⟩=false:=bk bV 1;have f2:w5.frozen? ⟨w3.1.size,2,none⟩=false:=bk bV 2;have g0:w5.cell? ⟨w3.1.size,0,none⟩=some (UM US 1):=ak bV 0;have g1:w5.cell? ⟨w3.1.size,1,none⟩=some (UN t):=ak bV 1;have g2:w5.cell? ⟨w3.1.size,2,none⟩=some (UM US 0):=ak bV 2;haveI:af w3.1.size w5:=af.of (ae bV);have hob:(UO A9 f.length c9).ownBlock≠some w3.1.size:=λe=>by have:=fM _ e;omega
    have iC:(UO fT op.length bB).ownBlock≠some w3.1.size:=λe=>by have:=vD _ e;omega
    have hkey:∀W,W=((w5.setCell ⟨w3.1.size,0,none⟩ (UM US 4)).setCell ⟨w3.1.size,1,none⟩ (UN u)).setCell ⟨w3.1.size,2,none⟩ (UM US ((c:Int)+1))->W.ownsRow w.1.size 36 3 (UO A9 f.length c9) f.length (av f)/\W.ownsRow w.1.size 36 3 (UO fT op.length bB) op.length (av op)/\bK W B g (P+1+9*(k+1))/\w.grownBy W (some g)/\W.1.size=w5.1.size/\W.1[w3.1.size]?=some (UT #[UM US 4,UN u,UM US ((c:Int)+1)] 36 (0,0)):=by
     intro W hW;subst hW;have hBb:∀x,some w3.1.size=some x->B<=x:=λx e=>by cases e;omega
     refine⟨aA (aA (aA eW.out hob) hob) hob,aA (aA (aA rY.out iC) iC) iC,?_,bO (bO (bO rE.out _ _ (.inr (by show w.1.size<=w3.1.size;omega))) _ _ (.inr (by show w.1.size<=w3.1.size;omega))) _ _ (.inr (by show w.1.size<=w3.1.size;omega)),by simp,heap_setCell_same _ w3.1.size 2 _ _ _ (heap_setCell_same _ w3.1.size 1 _ _ _ (heap_setCell_same w5 w3.1.size 0 _ _ _ bV))⟩;exact(((kt.out.gb (cK w5 ⟨w3.1.size,0,none⟩ _) hBb).gb (cK _ ⟨w3.1.size,1,none⟩ _) hBb).gb (cK _ ⟨w3.1.size,2,none⟩ _) hBb).le (by omega)
    have HKEY:=aa (hkey _ rfl);have wU:=HKEY.out.2.2.1.lt.2;clear fV hk5 fx dB iP pV hkey hu hq;go_wp2_with fail;refine(dq.out _ _ (4,u.1.1,(c:Int)+1) ?_ ?_ ?_).mono ?_
    ·exact(aX HKEY.out.1 rfl).ai ((ac.refl _).alloc _)
    ·rw[<-be u];exact cF _ _ _ _ _ (by simp) (by rw[World.cell?_alloc_at _ _ _ _ (by simp)];rfl) (by rw[World.cell?_alloc_at _ _ _ _ (by simp)];rfl) (by rw[World.cell?_alloc_at _ _ _ _ (by simp)];rfl)
    ·rw[cR];simp;omega
    rintro e w7 ⟨v7,rfl,dH,cf⟩;have hrel:=gF.out (4,u.1.1,(c:Int)+1) v7 _ _ w7 op (c+1) (UM US ((c:Int)+1)) rfl (iN.out.empty _ hun) (by simp;omega) (by omega) (by omega) dH (HKEY.out.2.1.alloc _) cf (by have:=HKEY.out.2.2.2.1.size;simp at this |-;omega) ((HKEY.out.2.2.1.ai ((ac.refl _).alloc _)).ai cf) (cm HKEY.out.2.2.2.1 (((ac.refl _).alloc _).trans cf));have bP:=aa hrel;clear hrel dH cf hcell;go_wp2;exact⟨bP.out,by simp[intOf];omega⟩
   ·rcases h with h|h
    all_goals
     subst h;clear pd d0 d1 d2;go_wp2_with fail;refine(cx B g _ 3 _ (fx.out.ai ((ac.refl _).alloc (UT #[UN ⟨#[98]⟩,UN ⟨#[105]⟩,UN ⟨#[97,32,104,61,49]⟩] 9))) (by omega) (by omega) (by omega)).mono ?_;rintro e w5 ⟨q,rfl,hq,fV,hk5⟩
     obtain⟨u,hu,km,hun⟩:∃u:ByteArray,(#[UN ⟨#[98]⟩,UN ⟨#[105]⟩,UN ⟨#[97,32,104,61,49]⟩]:Array Value)[q]?=some (UN u)/\u.size<=5/\u.1.1∈St.zg:=by
      rcases(show q=0\/q=1\/q=2 by omega)with h|h|h<;>subst h<;>exact⟨_,rfl,by decide,by decide⟩
     have hcell:=gw w4 w5 _ _ B g hk5 kw (by omega) q _ hu;have kt:=aa fV;have rE:=aa (aW (cm dB.out ((ac.refl _).alloc (UT #[UN ⟨#[98]⟩,UN ⟨#[105]⟩,UN ⟨#[97,32,104,61,49]⟩] 9))) hk5 (λ_ e=>.inl e));have eW:=aa (gh (iP.out.alloc (UT #[UN ⟨#[98]⟩,UN ⟨#[105]⟩,UN ⟨#[97,32,104,61,49]⟩] 9)) hk5 (by omega));have rY:=aa (gh (pV.out.alloc (UT #[UN ⟨#[98]⟩,UN ⟨#[105]⟩,UN ⟨#[97,32,104,61,49]⟩] 9)) hk5 (by omega));have bV:w5.1[w3.1.size]?=some (UT #[UM US 1,UN t,UM US 0] 36 (0,0)):=(hk5.block w3.1.size (by simp;omega) (by simp;omega)).trans ((((ac.refl w4).alloc _).below.block w3.1.size nh).trans hb4);haveI:af w4.1.size w5:=af.of (cM _ _ hcell);have LJ:q<3:=by omega
     have f0:w5.frozen? ⟨w3.1.size,0,none⟩=false:=bk bV 0;have f1:w5.frozen? ⟨w3.1.size,1,none⟩=false:=bk bV 1;have f2:w5.frozen? ⟨w3.1.size,2,none⟩=false:=bk bV 2;have g0:w5.cell? ⟨w3.1.size,0,none⟩=some (UM US 1):=ak bV 0;have g1:w5.cell? ⟨w3.1.size,1,none⟩=some (UN t):=ak bV 1;have g2:w5.cell? ⟨w3.1.size,2,none⟩=some (UM US 0):=ak bV 2;haveI:af w3.1.size w5:=af.of (ae bV);have hob:(UO A9 f.length c9).ownBlock≠some w3.1.size:=λe=>by have:=fM _ e;omega
     have iC:(UO fT op.length bB).ownBlock≠some w3.1.size:=λe=>by have:=vD _ e;omega
     have hkey:∀W,W=((w5.setCell ⟨w3.1.size,0,none⟩ (UM US 2)).setCell ⟨w3.1.size,1,none⟩ (UN u)).setCell ⟨w3.1.size,2,none⟩ (UM US ((c:Int)+1))->W.ownsRow w.1.size 36 3 (UO A9 f.length c9) f.length (av f)/\W.ownsRow w.1.size 36 3 (UO fT op.length bB) op.length (av op)/\bK W B g (P+1+9*(k+1))/\w.grownBy W (some g)/\W.1.size=w5.1.size/\W.1[w3.1.size]?=some (UT #[UM US 2,UN u,UM US ((c:Int)+1)] 36 (0,0)):=by
      intro W hW;subst hW;have hBb:∀x,some w3.1.size=some x->B<=x:=λx e=>by cases e;omega
      refine⟨aA (aA (aA eW.out hob) hob) hob,aA (aA (aA rY.out iC) iC) iC,?_,bO (bO (bO rE.out _ _ (.inr (by show w.1.size<=w3.1.size;omega))) _ _ (.inr (by show w.1.size<=w3.1.size;omega))) _ _ (.inr (by show w.1.size<=w3.1.size;omega)),by simp,heap_setCell_same _ w3.1.size 2 _ _ _ (heap_setCell_same _ w3.1.size 1 _ _ _ (heap_setCell_same w5 w3.1.size 0 _ _ _ bV))⟩;exact(((kt.out.gb (cK w5 ⟨w3.1.size,0,none⟩ _) hBb).gb (cK _ ⟨w3.1.size,1,none⟩ _) hBb).gb (cK _ ⟨w3.1.size,2,none⟩ _) hBb).le (by omega)
     have HKEY:=aa (hkey _ rfl);have wU:=HKEY.out.2.2.1.lt.2;clear fV hk5 fx dB iP pV hkey hu hq;go_wp2_with (at_builtin;refine wpList_append_own _ rfl _ _ 37 rfl w.1.size 36 i0 (.agg #[.int .i64 0,.string ⟨#[]⟩,.int .i64 0]) 3 32 Tryz.underlying37 hi hz0 hz1 hz2 rfl (by decide) (.slice fT op.length bB) op.length _ rfl (HKEY.out.2.1.alloc _) _ 1 1 [.int .i64 2,.string u,.int .i64 ((c:Int)+1)] rfl rfl ?_ (cN _ _ _) (by unfold maxLen;omega) (by omega) ?_ ?_)
     ·exact eA _ _ _ _ _ _ (by simp)
     ·have:=HKEY.out.2.2.2.1.size;simp at this |-;omega
     intro v' w6 hown' hgrow _;have hwk:=HKEY.out.2.2.2.1.size;have T4:=HKEY.out.2.2.2.2.1;have Bb:=ae bV;have hrow:∀x,(UO fT op.length bB).ownBlock=some x->w.1.size<=x:=λx hx=>aG HKEY.out.2.1 x hx
     have vF:=(HKEY.out.1.alloc (UT #[UM US 2,UN u,UM US ((c:Int)+1)] 36)).kept hgrow HD.out;have eh:w6.1[w3.1.size]?=some (UT #[UM US 2,UN u,UM US ((c:Int)+1)] 36 (0,0)):=(hgrow.block w3.1.size (by simp;omega) (λe=>iC e.symm)).trans ((((ac.refl _).alloc _).below.block w3.1.size (by simp;omega)).trans HKEY.out.2.2.2.2.2)
     have lN:w6.ownsRow w.1.size 36 3 v' (op++[((2:Int),u.1.1,(c:Int)+1)]).length (av (op++[((2:Int),u.1.1,(c:Int)+1)])):=by
      rw[bE];simp only[be,List.length_append,List.length_cons,List.length_nil];exact hown'
     have vA:bK w6 B g (P+1+9*(k+1)):=(HKEY.out.2.2.1.ai ((ac.refl _).alloc _)).gb hgrow (λx e=>Nat.le_trans hB (hrow x e));have Og:w.grownBy w6 (some g):=aW (cm HKEY.out.2.2.2.1 ((ac.refl _).alloc _)) hgrow (λx e=>.inr (hrow x e));have c0:w6.cell? ⟨w3.1.size,0,none⟩=some (UM US 2):=ak eh 0;have c1:w6.cell? ⟨w3.1.size,1,none⟩=some (UN u):=ak eh 1;have c2:w6.cell? ⟨w3.1.size,2,none⟩=some (UM US ((c:Int)+1)):=ak eh 2;haveI:af w3.1.size w6:=af.of (ae eh);obtain⟨Av,cv,rfl,_,_,_⟩:=aT lN;have rF:=aa vF;have iU:=aa lN;have u5:=aa vA;have Ge:=aa Og;have hzz:=Og.size;clear hown' hgrow vF lN vA Og eh hrow HKEY f0 f1 f2 g0 g1 g2 hcell;go_wp2_with fail;refine(dq.out _ _ (2,u.1.1,(c:Int)+1) ?_ ?_ ?_).mono ?_
     ·exact(aX rF.out rfl).ai ((ac.refl _).alloc _)
     ·rw[<-be u];exact cF _ _ _ _ _ (by simp) (by rw[World.cell?_alloc_at _ _ _ _ (by simp)];rfl) (by rw[World.cell?_alloc_at _ _ _ _ (by simp)];rfl) (by rw[World.cell?_alloc_at _ _ _ _ (by simp)];rfl)
     ·rw[cR];simp;omega
     rintro e w7 ⟨v7,rfl,dH,cf⟩;have hrel:=gF.out (2,u.1.1,(c:Int)+1) v7 _ _ w7 (op++[((2:Int),u.1.1,(c:Int)+1)]) (c+1) (UM US ((c:Int)+1)) rfl (iN.out.opened _ hun) (by simp;omega) (by simp) (by omega) dH (iU.out.alloc _) cf (by simp;omega) ((u5.out.ai ((ac.refl _).alloc _)).ai cf) (cm Ge.out (((ac.refl _).alloc _).trans cf));have bP:=aa hrel;clear hrel dH cf;go_wp2;exact⟨by have h:=bP.out;simp only[List.length_append,List.length_cons,List.length_nil,Nat.zero_add]at h;exact h,by simp[intOf];omega⟩
   ·rcases h with h|h
    all_goals
     subst h;clear pd
     by_cases hop:op.length=0
     ·have y1:¬(0:Int)<=(op.length:Int)-1:=by omega
      have Fa:op.length<=0:=by omega
      clear hop;cases ns
      ·have bV:=hb4;clear d0 d1 d2 hb4;have f0:w4.frozen? ⟨w3.1.size,0,none⟩=false:=bk bV 0;have f1:w4.frozen? ⟨w3.1.size,1,none⟩=false:=bk bV 1;have f2:w4.frozen? ⟨w3.1.size,2,none⟩=false:=bk bV 2;have g0:w4.cell? ⟨w3.1.size,0,none⟩=some (UM US 1):=ak bV 0;have g1:w4.cell? ⟨w3.1.size,1,none⟩=some (UN t):=ak bV 1;have g2:w4.cell? ⟨w3.1.size,2,none⟩=some (UM US 0):=ak bV 2;haveI:af w3.1.size w4:=af.of (ae bV);have hob:(UO A9 f.length c9).ownBlock≠some w3.1.size:=λe=>by have:=fM _ e;omega
       have iC:(UO fT op.length bB).ownBlock≠some w3.1.size:=λe=>by have:=vD _ e;omega
       have hkey:∀W,W=((w4.setCell ⟨w3.1.size,0,none⟩ (UM US 3)).setCell ⟨w3.1.size,1,none⟩ (UN ⟨#[98]⟩)).setCell ⟨w3.1.size,2,none⟩ (UM US ((c:Int)+1))->W.ownsRow w.1.size 36 3 (UO A9 f.length c9) f.length (av f)/\W.ownsRow w.1.size 36 3 (UO fT op.length bB) op.length (av op)/\bK W B g (P+1+9*(k+1))/\w.grownBy W (some g)/\W.1.size=w4.1.size/\W.1[w3.1.size]?=some (UT #[UM US 3,UN ⟨#[98]⟩,UM US ((c:Int)+1)] 36 (0,0)):=by
        intro W hW;subst hW;have hBb:∀x,some w3.1.size=some x->B<=x:=λx e=>by cases e;omega
        refine⟨aA (aA (aA iP.out hob) hob) hob,aA (aA (aA pV.out iC) iC) iC,?_,bO (bO (bO dB.out _ _ (.inr (by show w.1.size<=w3.1.size;omega))) _ _ (.inr (by show w.1.size<=w3.1.size;omega))) _ _ (.inr (by show w.1.size<=w3.1.size;omega)),by simp,heap_setCell_same _ w3.1.size 2 _ _ _ (heap_setCell_same _ w3.1.size 1 _ _ _ (heap_setCell_same w4 w3.1.size 0 _ _ _ bV))⟩;exact(((fx.out.gb (cK w4 ⟨w3.1.size,0,none⟩ _) hBb).gb (cK _ ⟨w3.1.size,1,none⟩ _) hBb).gb (cK _ ⟨w3.1.size,2,none⟩ _) hBb).le (by omega)
       have HKEY:=aa (hkey _ rfl);have wU:=HKEY.out.2.2.1.lt.2;clear hkey;go_wp2_with fail;refine(dq.out _ _ (3,[98],(c:Int)+1) ?_ ?_ ?_).mono ?_
       ·exact(aX HKEY.out.1 rfl).ai ((ac.refl _).alloc _)
       ·exact cF _ _ _ _ _ (by simp) (by rw[World.cell?_alloc_at _ _ _ _ (by simp)];rfl) (by rw[World.cell?_alloc_at _ _ _ _ (by simp)];rfl) (by rw[World.cell?_alloc_at _ _ _ _ (by simp)];rfl)
       ·rw[cR];simp;omega
       rintro e w7 ⟨v7,rfl,dH,cf⟩;have hrel:=gF.out (3,[98],(c:Int)+1) v7 _ _ w7 op (c+1) (UM US ((c:Int)+1)) rfl (iN.out.stray rfl) (by simp) (by omega) (by omega) dH (HKEY.out.2.1.alloc _) cf (by have:=HKEY.out.2.2.2.1.size;simp at this |-;omega) ((HKEY.out.2.2.1.ai ((ac.refl _).alloc _)).ai cf) (cm HKEY.out.2.2.2.1 (((ac.refl _).alloc _).trans cf));have bP:=aa hrel;clear hrel dH cf;go_wp2;exact⟨bP.out,by simp[intOf];omega⟩
      clear hb4;go_wp2_with fail;refine(dq.out _ _ (1,t.1.1,0) ?_ ?_ ?_).mono ?_
      ·exact(aX iP.out rfl).ai ((ac.refl _).alloc _)
      ·rw[<-be t];exact fl _ _ _ _ (by simp) (by simp) (by simp) (by simp)
      ·rw[cR];simp;omega
      rintro e w7 ⟨v7,rfl,dH,cf⟩;have hrel:=gF.out (1,t.1.1,0) v7 _ _ w7 op c _ rfl (iN.out.text _) (by simp;omega) (by omega) (by omega) dH (pV.out.alloc _) cf (by have:=dB.out.size;simp at this |-;omega) (((fx.out.ai ((ac.refl _).alloc _)).ai cf).le (by omega)) (cm dB.out (((ac.refl _).alloc _).trans cf));have bP:=aa hrel;clear hrel dH cf d0 d1 d2;go_wp2;exact⟨bP.out,by simp[intOf];omega⟩
     have y1:(0:Int)<=(op.length:Int)-1:=by omega
     cases ns
     case' false=>
      clear d0 d1 d2;go_wp2_with fail;refine(cx B g _ _ _ fx.out (by omega) ?_ ?_).mono ?_
      ·omega
      ·omega
      rintro e w5 ⟨q,rfl,hq,fV,hk5⟩;have hq2:q<op.length:=by omega
      have kt:=aa fV;have rE:=aa (aW dB.out hk5 (λ_ e=>.inl e));have eW:=aa (gh iP.out hk5 (by omega));have rY:=aa (gh pV.out hk5 (by omega));have bV:w5.1[w3.1.size]?=some (UT #[UM US 1,UN t,UM US 0] 36 (0,0)):=(hk5.block w3.1.size (by omega) (by simp;omega)).trans hb4
     case' true=>
      obtain⟨q,hq⟩:∃q,op.length=q+1:=⟨op.length-1,by omega⟩;have AC:(op.length:Int)-1=(q:Int):=by omega
      rw[AC]at y1;have hq2:q<op.length:=by omega
      obtain⟨w5,rfl⟩:∃w5:UY,w5=w4:=⟨_,rfl⟩;have kt:=fx;have rE:=dB;have eW:=iP;have rY:=pV;have bV:=hb4;clear hq d0 d1 d2
     all_goals
      obtain⟨dt,off10,e10,iY,hc10⟩:=(aX rY.out rfl) (by omega);subst e10;obtain⟨p0,p1,p2⟩:=hc10 q hq2;have hsm:=(iN.out.small op[q] (List.getElem_mem hq2)).1;have lL:=St.eH.closed q hq2 (λe=>by cases e<;>omega) iN.out;generalize op[q]=y at p0 p1 p2 hsm lL;obtain⟨yk,yt,yi⟩:=y;simp only at p0 p1 p2 hsm lL;have Rg:=aa lL;clear hc10 lL;have hnl:=St.uE yt;go_wp2_with fail;refine bz (λa b=>a.grownBy b (some w3.1.size)) (λL W=>if L 12=true then ∃W0,ac w5 W0/\W=((W0.setCell ⟨w3.1.size,0,none⟩ (UM US 3)).setCell ⟨w3.1.size,1,none⟩ (UN ⟨(St.nameOf yt).toArray⟩)).setCell ⟨w3.1.size,2,none⟩ (UM US yi)else ac w5 W) [λv _=>v=UO (some ⟨dt,off10,none⟩) op.length bB,λv _=>v=UM US q,λv _=>v=UQ (some ⟨dt,off10+q*3,none⟩),λv _=>v=UQ (some ⟨dt,off10+q*3+1,none⟩),λv _=>v=UN ⟨yt.toArray⟩,λv _=>v=UN ⟨(St.nameOf yt).toArray⟩,λv _=>v=UO (some ⟨dt,off10,none⟩) op.length bB,λv _=>v=UM US q,λv _=>v=UQ (some ⟨dt,off10+q*3,none⟩),λv _=>v=UQ (some ⟨dt,off10+q*3+2,none⟩),λv _=>v=UM US yi,λv _=>v=.agg #[UM US 3,UN ⟨(St.nameOf yt).toArray⟩,UM US yi],mW] (λa=>bi a _) (λa b c h k=>aW h k (λ_ e=>.inl e)) (by kernel_rfl) (by rfl) (by kernel_rfl) (by kernel_rfl) ?_ ?_ ?_ ?_ ?_;rotate_left 1
      ·intro ρ;simp only[ch,Act.put,aq,al,ar,Nat.zero_add,Nat.reduceAdd];exact rfl
      ·exact uZ
      ·refine aj.cons (λρ L W hR hI hL hD hO hF K hK=>?_) ?_
       ·clear hF hD hO;simp only[Act.put,aq,al,ar]at hK |-;go_simp;refine hK _ _ (bi _ _) (by simpa[au]using hI) (λW2 h2=>?_);rfl
       refine aj.cons (λρ L W hR hI hL hD hO hF K hK=>?_) ?_
       ·clear hF hD hO;simp only[Act.put,aq,al,ar]at hK |-;go_simp;refine hK _ _ (bi _ _) (by simpa[au]using hI) (λW2 h2=>?_);rfl
       refine aj.cons (λρ L W hR hI hL hD hO hF K hK=>?_) ?_
       ·have f0:=ag hF (j:=0) (by decide);have f1:=ag hF (j:=1) (by decide);clear hF hD hO;simp only[Act.put,aq,al,ar]at hK |-;have e0:ρ 0=UO (some ⟨dt,off10,none⟩) op.length bB:=f0;have e1:ρ 1=UM US q:=f1;rw[e0,e1]at hK |-;have z1:(q:Int)<(op.length:Int):=by omega
        go_simp;refine hK _ _ (bi _ _) (by simpa[au]using hI) (λW2 h2=>?_);rfl
       refine aj.cons (λρ L W hR hI hL hD hO hF K hK=>?_) ?_
       ·have f2:=ag hF (j:=2) (by decide);clear hF hD hO;simp only[Act.put,aq,al,ar]at hK |-;have e2:ρ 2=UQ (some ⟨dt,off10+q*3,none⟩):=f2;rw[e2]at hK |-;go_simp;refine hK _ _ (bi _ _) (by simpa[au]using hI) (λW2 h2=>?_);rfl
       refine aj.cons (λρ L W hR hI hL hD hO hF K hK=>?_) ?_
       ·have f3:=ag hF (j:=3) (by decide);have h12:L 12=false:=hD.not (p:=12) rfl (by decide) hL;have o8:ac w5 W:=by simpa[h12]using hI
        clear hF hD hO;simp only[Act.put,aq,al,ar]at hK |-;have e3:ρ 3=UQ (some ⟨dt,off10+q*3+1,none⟩):=f3;rw[e3]at hK |-;have hc:=(o8.cell (p:=⟨dt,off10+q*3+1,none⟩) iY).trans p1;haveI:af dt W:=af.of (Nat.lt_of_lt_of_le iY o8.size);go_simp;refine hK _ _ (bi _ _) (by simpa[au]using hI) (λW2 h2=>?_);rfl
       refine aj.cons (λρ L W hR hI hL hD hO hF K hK=>?_) ?_
       ·have f4:=ag hF (j:=4) (by decide);have h12:L 12=false:=hD.not (p:=12) rfl (by decide) hL;have o8:ac w5 W:=by simpa[h12]using hI
        clear hF hD hO;simp only[Act.put,aq,al,ar]at hK |-;have e4:ρ 4=UN ⟨yt.toArray⟩:=f4;rw[e4]at hK |-;refine tU (o:=⟨some 86,_,_,_,_,_⟩) rfl 105 #[UN ⟨yt.toArray⟩] _ (kc yt W (by omega)) ?_ ?_
        ·go_simp
        rintro e W2 ⟨rfl,hu⟩;exact⟨_,rfl,hK _ _ (hu.gb _) (by simpa[au,h12]using o8.trans hu) (λW3 h3=>rfl)⟩
       refine aj.cons (λρ L W hR hI hL hD hO hF K hK=>?_) ?_
       ·clear hF hD hO;simp only[Act.put,aq,al,ar]at hK |-;go_simp;refine hK _ _ (bi _ _) (by simpa[au]using hI) (λW2 h2=>?_);rfl
       refine aj.cons (λρ L W hR hI hL hD hO hF K hK=>?_) ?_
       ·clear hF hD hO;simp only[Act.put,aq,al,ar]at hK |-;go_simp;refine hK _ _ (bi _ _) (by simpa[au]using hI) (λW2 h2=>?_);rfl
       refine aj.cons (λρ L W hR hI hL hD hO hF K hK=>?_) ?_
       ·have f6:=ag hF (j:=6) (by decide);have f7:=ag hF (j:=7) (by decide);clear hF hD hO;simp only[Act.put,aq,al,ar]at hK |-;have e6:ρ 6=UO (some ⟨dt,off10,none⟩) op.length bB:=f6;have e7:ρ 7=UM US q:=f7;rw[e6,e7]at hK |-;have z1:(q:Int)<(op.length:Int):=by omega
        go_simp;refine hK _ _ (bi _ _) (by simpa[au]using hI) (λW2 h2=>?_);rfl
       refine aj.cons (λρ L W hR hI hL hD hO hF K hK=>?_) ?_
       ·have f8:=ag hF (j:=8) (by decide);clear hF hD hO;simp only[Act.put,aq,al,ar]at hK |-;have e8:ρ 8=UQ (some ⟨dt,off10+q*3,none⟩):=f8;rw[e8]at hK |-;go_simp;refine hK _ _ (bi _ _) (by simpa[au]using hI) (λW2 h2=>?_);rfl
       refine aj.cons (λρ L W hR hI hL hD hO hF K hK=>?_) ?_
       ·have f9:=ag hF (j:=9) (by decide);have h12:L 12=false:=hD.not (p:=12) rfl (by decide) hL;have o8:ac w5 W:=by simpa[h12]using hI
        clear hF hD hO;simp only[Act.put,aq,al,ar]at hK |-;have e9:ρ 9=UQ (some ⟨dt,off10+q*3+2,none⟩):=f9;rw[e9]at hK |-;have hc:=(o8.cell (p:=⟨dt,off10+q*3+2,none⟩) iY).trans p2;haveI:af dt W:=af.of (Nat.lt_of_lt_of_le iY o8.size);go_simp;refine hK _ _ (bi _ _) (by simpa[au]using hI) (λW2 h2=>?_);rfl
       refine aj.cons (λρ L W hR hI hL hD hO hF K hK=>?_) ?_
       ·have f5:=ag hF (j:=5) (by decide);have f10:=ag hF (j:=10) (by decide);clear hF hD hO;simp only[Act.put,aq,al,ar]at hK |-;have e5:ρ 5=UN ⟨(St.nameOf yt).toArray⟩:=f5;have e10:ρ 10=UM US yi:=f10;rw[e5,e10]at hK |-;go_simp;refine hK _ _ (bi _ _) (by simpa[au]using hI) (λW2 h2=>?_);rfl
       refine aj.cons (λρ L W hR hI hL hD hO hF K hK=>?_) ?_
       ·have f11:=ag hF (j:=11) (by decide);have o8:ac w5 W:=by simpa[hL]using hI
        clear hF hD hO;simp only[Act.put,aq,al,ar]at hK |-;have e11:ρ 11=.agg #[UM US 3,UN ⟨(St.nameOf yt).toArray⟩,UM US yi]:=f11;rw[e11]at hK |-;have hbW:=(o8.below.block w3.1.size (ae bV)).trans bV;have f0:W.frozen? ⟨w3.1.size,0,none⟩=false:=bk hbW 0;have f1:W.frozen? ⟨w3.1.size,1,none⟩=false:=bk hbW 1;have f2:W.frozen? ⟨w3.1.size,2,none⟩=false:=bk hbW 2;have g0:W.cell? ⟨w3.1.size,0,none⟩=some (UM US 1):=ak hbW 0;have g1:W.cell? ⟨w3.1.size,1,none⟩=some (UN t):=ak hbW 1;have g2:W.cell? ⟨w3.1.size,2,none⟩=some (UM US 0):=ak hbW 2;haveI:af w3.1.size W:=af.of (ae hbW);go_simp;refine hK undef _ (bO (bO (cK _ ⟨w3.1.size,0,none⟩ _) ⟨w3.1.size,1,none⟩ _ (.inl rfl)) ⟨w3.1.size,2,none⟩ _ (.inl rfl)) (by simp only[au,if_true];exact⟨W,o8,rfl⟩) (λ_ _=>trivial)
       exact aj.nil
      intro ρ L W hR hI hL hF;have h12:L 12=true:=hL 12 (by decide);rw[if_pos h12]at hI;obtain⟨w6,eZ,hW⟩:=hI;have Np:=aa (aE eZ eW.out);have rG:=aa (aE eZ rY.out);have u5:=aa (kt.out.ai eZ);have Ge:=aa (cm rE.out eZ);have bV:=(eZ.below.block w3.1.size (ae bV)).trans bV;have Bb:=ae bV;clear hR hL hF h12;have f0:w6.frozen? ⟨w3.1.size,0,none⟩=false:=bk bV 0;have f1:w6.frozen? ⟨w3.1.size,1,none⟩=false:=bk bV 1;have f2:w6.frozen? ⟨w3.1.size,2,none⟩=false:=bk bV 2;have g0:w6.cell? ⟨w3.1.size,0,none⟩=some (UM US 1):=ak bV 0;have g1:w6.cell? ⟨w3.1.size,1,none⟩=some (UN t):=ak bV 1;have g2:w6.cell? ⟨w3.1.size,2,none⟩=some (UM US 0):=ak bV 2;haveI:af w3.1.size w6:=af.of (ae bV);have hob:(UO A9 f.length c9).ownBlock≠some w3.1.size:=λe=>by have:=fM _ e;omega
      have iC:(UO (some ⟨dt,off10,none⟩) op.length bB).ownBlock≠some w3.1.size:=λe=>by have:=vD _ e;omega
      have hkey:∀W,W=((w6.setCell ⟨w3.1.size,0,none⟩ (UM US 3)).setCell ⟨w3.1.size,1,none⟩ (UN ⟨(St.nameOf yt).toArray⟩)).setCell ⟨w3.1.size,2,none⟩ (UM US yi)->W.ownsRow w.1.size 36 3 (UO A9 f.length c9) f.length (av f)/\W.ownsRow w.1.size 36 3 (UO (some ⟨dt,off10,none⟩) op.length bB) op.length (av op)/\bK W B g (P+1+9*(k+1))/\w.grownBy W (some g)/\W.1.size=w6.1.size/\W.1[w3.1.size]?=some (UT #[UM US 3,UN ⟨(St.nameOf yt).toArray⟩,UM US yi] 36 (0,0)):=by
       intro W hW;subst hW;have hBb:∀x,some w3.1.size=some x->B<=x:=λx e=>by cases e;omega
       refine⟨aA (aA (aA Np.out hob) hob) hob,aA (aA (aA rG.out iC) iC) iC,?_,bO (bO (bO Ge.out _ _ (.inr (by show w.1.size<=w3.1.size;omega))) _ _ (.inr (by show w.1.size<=w3.1.size;omega))) _ _ (.inr (by show w.1.size<=w3.1.size;omega)),by simp,heap_setCell_same _ w3.1.size 2 _ _ _ (heap_setCell_same _ w3.1.size 1 _ _ _ (heap_setCell_same w6 w3.1.size 0 _ _ _ bV))⟩;exact(((u5.out.gb (cK w6 ⟨w3.1.size,0,none⟩ _) hBb).gb (cK _ ⟨w3.1.size,1,none⟩ _) hBb).gb (cK _ ⟨w3.1.size,2,none⟩ _) hBb).le (by omega)
      have HKEY:=aa (hkey W hW);have wU:=HKEY.out.2.2.1.lt.2;have Ut:=HKEY.out.2.2.2.2.1;have Oh:=HKEY.out.2.2.2.1.size;have hit:=aX HKEY.out.2.1 rfl;have Rh:=aa (qV hit q);have E6:=Rg.out;obtain⟨q1,hq1⟩:∃q1,q1=q+1:=⟨_,rfl⟩;rw[<-hq1]at E6;have Ps:=aa E6;clear E6
      obtain⟨ox,hox,hit2⟩:∃ox,(if bB=q1 then(some ⟨dt,off10,none⟩:Option Addr)else some ⟨dt,off10+q1*3,none⟩)=some ⟨dt,ox,none⟩/\aO W (some ⟨dt,ox,none⟩) (op.drop q1):=by
       by_cases Hj:bB=q1
       ·exact⟨off10,if_pos Hj,λh0=>by simp at h0;omega⟩
       exact⟨off10+q1*3,if_neg Hj,Fl hit q1⟩
      have Ri:=aa hit2;clear hit2;have hw:IntKind.i64.wrap (q1:Int)=(q1:Int):=IntWalk.i64_in _ (by omega);have hw1:(q:Int)+1=(q1:Int):=by omega
      have hw2:(0:Int)<=(q1:Int):=by omega
      have hw3:(q1:Int)<=(op.length:Int):=by omega
      have hw4:q1<=op.length:=by omega
      have Uw:q+1<=q1:=by omega
      have Ux:q1<=q+1:=by omega
      clear hq1;have hbW:=HKEY.out.2.2.2.2.2;have Hp:(q:Int)<=(op.length:Int):=by omega
      have hl4:(q:Int)<=(bB:Int):=by omega
      have Du:(op.length:Int)<=(bB:Int):=by omega
      haveI:af dt W:=af.of (by have:=eZ.size;omega);clear hkey hW bV f0 f1 f2 g0 g1 g2 p0 p1 p2 hit eZ;go_wp2_with fail;refine wp_region_any (by kernel_rfl) ?_
      try (change wpAny _ _ _ _ _ _ _ (World.drew _))
      refine dk (l':=#[bF,bF,bF,bF,bF,bF,bF,bF,bF,bF]) (by kernel_rfl) ?_;refine wpAny_take (i:=0) (v:=?_) rfl (by kernel_rfl) (by kernel_rfl) (by kernel_rfl) (λ_ _ _ h=>h) (Or.inl ⟨by rfl,?_⟩) ?_;rotate_left 1
      ·(intro W9;go_simp;try with_reducible rfl)
      try go_simp
      refine dk (l':=#[bT,bF,bF,bF,bF,bF,bF,bF,bF,bF]) (by kernel_rfl) ?_;refine wpAny_take (i:=1) (v:=?_) rfl (by kernel_rfl) (by kernel_rfl) (by kernel_rfl) (λ_ _ _ h=>h) (Or.inl ⟨by rfl,?_⟩) ?_;rotate_left 1
      ·(intro W9;go_simp;try with_reducible rfl)
      try go_simp
      refine dk (l':=#[bT,bT,bF,bF,bF,bF,bF,bF,bF,bF]) (by kernel_rfl) ?_;refine wpAny_take (i:=2) (v:=?_) rfl (by kernel_rfl) (by kernel_rfl) (by kernel_rfl) (λ_ _ _ h=>h) (Or.inl ⟨by rfl,?_⟩) ?_;rotate_left 1
      ·(intro W9;go_simp;try with_reducible rfl)
      try go_simp
      refine dk (l':=#[bT,bT,bT,bF,bF,bF,bF,bF,bF,bF]) (by kernel_rfl) ?_;refine wpAny_take (i:=4) (v:=?_) rfl (by kernel_rfl) (by kernel_rfl) (by kernel_rfl) (λ_ _ _ h=>h) (Or.inl ⟨by rfl,?_⟩) ?_;rotate_left 1
      ·(intro W9;go_simp;try with_reducible rfl)
      try go_simp
      refine dk (l':=#[bT,bT,bT,bF,bT,bF,bF,bF,bF,bF]) (by kernel_rfl) ?_;refine wpAny_take (i:=5) (v:=?_) rfl (by kernel_rfl) (by kernel_rfl) (by kernel_rfl) (λ_ _ _ h=>h) (Or.inl ⟨by rfl,?_⟩) ?_;rotate_left 1
      ·(intro W9;go_simp;try with_reducible rfl)
      try go_simp
      refine dk (l':=#[bT,bT,bT,bF,bT,bT,bF,bF,bF,bF]) (by kernel_rfl) ?_;refine wpAny_take (i:=6) (v:=?_) rfl (by kernel_rfl) (by kernel_rfl) (by kernel_rfl) (λ_ _ _ h=>h) (Or.inl ⟨by rfl,?_⟩) ?_;rotate_left 1
      ·(intro W9;go_simp;try with_reducible rfl)
      try go_simp
      refine dk (l':=#[bT,bT,bT,bF,bT,bT,bT,bF,bF,bF]) (by kernel_rfl) ?_;refine wpAny_take (i:=7) (v:=?_) rfl (by kernel_rfl) (by kernel_rfl) (by kernel_rfl) (λ_ _ _ h=>h) (Or.inl ⟨by rfl,?_⟩) ?_;rotate_left 1
      ·(intro W9;go_simp;try with_reducible rfl)
      try go_simp
      refine dk (l':=#[bT,bT,bT,bF,bT,bT,bT,bT,bF,bF]) (by kernel_rfl) ?_;refine wpAny_ready (rs:=[3]) (by kernel_rfl) (by simp) ?_;refine AllReady.cons (o:=⟨some 96,_,_,_,_,_⟩) rfl (λK hK=>?_) AllReady.nil;refine nC (o:=⟨some 96,_,_,_,_,_⟩) rfl _ _ rfl W.1.size (UO none 0 0) 0 [] rfl (World.ownsRow_nil _ _ _ _) ⟨dt,off10,none⟩ q bB (op.take q) rfl (Rh.out.ai (ac.refl W).drew) (by simp;omega) (by omega) (by exact Nat.le_refl _) ?_;intro Q9 w8 Dv QP;have oz:ac W w8:=((ac.refl W).drew).grown QP (λg e=>by cases e);have jC:=aa (show w8.ownsRow W.1.size 36 3 Q9 q (av (op.take q))by simpa using Dv);have nr:=aa oz;clear Dv QP oz
      try go_simp
      refine hK _ _ ?_;clear hK K;refine dk (l':=#[bT,bT,bT,bT,bT,bT,bT,bT,bF,bF]) (by kernel_rfl) ?_;refine wpAny_ready (rs:=[8]) (by kernel_rfl) (by simp) ?_;refine AllReady.cons (o:=⟨some 101,_,_,_,_,_⟩) rfl (λK hK=>?_) AllReady.nil;refine nC (o:=⟨some 101,_,_,_,_,_⟩) rfl _ _ rfl W.1.size Q9 q (op.take q) rfl jC.out ⟨dt,ox,none⟩ (op.length-q1) (bB-q1) (op.drop q1) ?_ (Ri.out.ai nr.out) (by simp) (by omega) nr.out.size ?_
      ·first|rfl|(go_simp;try rfl)
      intro Sa w9 vF vB;have lj:ac W w9:=nr.out.grown vB (λx e=>aG jC.out x e);have rF:=aa vF;have cy:=aa lj;clear vF vB lj
      try go_simp
      refine hK _ _ ?_;clear hK K;refine dk (l':=#[bT,bT,bT,bT,bT,bT,bT,bT,bT,bF]) (by kernel_rfl) ?_;refine wpAny_take (i:=9) (v:=?_) rfl (by kernel_rfl) (by kernel_rfl) (by kernel_rfl) (λ_ _ _ h=>h) (Or.inl ⟨by rfl,?_⟩) ?_;rotate_left 1
      ·(intro W9;go_simp;try with_reducible rfl)
      try go_simp
      refine dk (l':=#[bT,bT,bT,bT,bT,bT,bT,bT,bT,bT]) (by kernel_rfl) ?_;refine wpAny_done (by kernel_rfl) ?_ _;have Fa:(op.take q++op.drop q1).length=op.length-1:=by simp;omega
      have RT:q+(op.length-q1)=op.length-1:=by omega
      have lN:w9.ownsRow W.1.size 36 3 Sa (op.take q++op.drop q1).length (av (op.take q++op.drop q1)):=by
       have:=rF.out
       rw[RT]at this;rw[Fa];exact this
      obtain⟨Av,cv,rfl,_,_,_⟩:=aT lN;have Hh:=(cy.out.below.block w3.1.size (ae hbW)).trans hbW;have c0:w9.cell? ⟨w3.1.size,0,none⟩=some (UM US 3):=ak Hh 0;have c1:w9.cell? ⟨w3.1.size,1,none⟩=some (UN ⟨(St.nameOf yt).toArray⟩):=ak Hh 1;have c2:w9.cell? ⟨w3.1.size,2,none⟩=some (UM US yi):=ak Hh 2;haveI:af w3.1.size w9:=af.of (ae Hh);have Ug:=cy.out.size;have iU:=aa lN;clear lN Hh rF;go_wp2_with fail;refine(dq.out _ _ (3,St.nameOf yt,yi) ?_ ?_ ?_).mono ?_
      ·exact((aX HKEY.out.1 rfl).ai cy.out).ai ((ac.refl _).alloc _)
      ·exact cF _ _ _ _ _ (by simp) (by rw[World.cell?_alloc_at _ _ _ _ (by simp)];rfl) (by rw[World.cell?_alloc_at _ _ _ _ (by simp)];rfl) (by rw[World.cell?_alloc_at _ _ _ _ (by simp)];rfl)
      ·rw[cR];simp;omega
      rintro e w7 ⟨v7,rfl,dH,cf⟩;have hrel:=gF.out (3,St.nameOf yt,yi) v7 _ _ w7 (op.take q++op.drop q1) c _ rfl Ps.out (by show(St.nameOf yt).length<=18;omega) (by omega) (by omega) dH ((dy iU.out (by omega)).alloc _) cf (by simp;omega) (((HKEY.out.2.2.1.ai cy.out).ai ((ac.refl _).alloc _)).ai cf) (cm (cm HKEY.out.2.2.2.1 cy.out) (((ac.refl _).alloc _).trans cf));have bP:=aa hrel;clear hrel dH cf;go_wp2;exact⟨by have h:=bP.out;rw[Fa]at h;exact h,by simp[intOf];omega⟩
   subst h;clear pd hb4;go_wp2_with fail;refine(dq.out _ _ (1,t.1.1,0) ?_ ?_ ?_).mono ?_
   ·exact(aX iP.out rfl).ai ((ac.refl _).alloc _)
   ·rw[<-be t];exact fl _ _ _ _ (by simp) (by simp) (by simp) (by simp)
   ·rw[cR];simp;omega
   rintro e w7 ⟨v7,rfl,dH,cf⟩;have hrel:=gF.out (1,t.1.1,0) v7 _ _ w7 op c _ rfl (iN.out.text _) (by simp;omega) (by omega) (by omega) dH (pV.out.alloc _) cf (by have:=dB.out.size;simp at this |-;omega) (((fx.out.ai ((ac.refl _).alloc _)).ai cf).le (by omega)) (cm dB.out (((ac.refl _).alloc _).trans cf));have bP:=aa hrel;clear hrel dH cf d0 d1 d2;go_wp2;exact⟨bP.out,by simp[intOf];omega⟩
  have z:¬(0:Int)<(i:Int):=by omega
  have z0:i=0:=by omega
  subst z0;cases ns
  ·obtain⟨A9,c9,rfl,_,_,_⟩:=aT HO.out;obtain⟨fT,bB,rfl,_,_,_⟩:=aT HP.out
   by_cases hop:op.length=0
   ·have y1:¬(0:Int)<=(op.length:Int)-1:=by omega
    have Fa:op.length<=0:=by omega
    clear hop;go_wp2_with fail;refine wp_loop_rounds 1 ?_;rw[rounds_succ];go_wp2;go_ret;exact⟨_,f,op,c,rfl,HO.out,iN.out,by omega,by omega,HG.out.le (by omega),HK.out⟩
   have y1:(0:Int)<=(op.length:Int)-1:=by omega
   go_wp2_with fail;refine wp_loop_rounds 1 ?_;rw[rounds_succ];go_wp2;go_ret;exact⟨_,f,op,c,rfl,HO.out,iN.out,by omega,by omega,HG.out.le (by omega),HK.out⟩
  obtain⟨fT,bB,rfl,h10c,h10m,_⟩:=aT HP.out;have hst:=iN.out;rw[<-List.take_length (l:=op)]at hst;have HST:=aa hst;clear hst;go_wp2_with fail;go_loopw [9,15] (λs9 oI wr=>Pm w B g P n op (UO fT op.length bB) c s9 oI wr) (λ_ oI _=>(intOf oI+1).toNat)
  case atStart=>exact⟨op.length,_,f,rfl,rfl,Nat.le_refl _,HO.out,HP.out,HD.out,HST.out,by omega,by omega,HG.out.le (by omega),HK.out⟩
  case round=>
   clear HO HP HD HG HK HST iN;obtain⟨j,zz,f,rfl,hzz,hj,hown,hownp,hU,lL,hfl2,hft2,hG,hk⟩:=hrel;have HG:=aa hG;have HK:=aa hk;have HO:=aa hown;have HP:=aa hownp;have iN:=aa lL;obtain⟨A9,c9,rfl,_,_,_⟩:=aT HO.out
   by_cases LF:j=0
   ·subst LF;obtain rfl:zz=-1:=by omega
    have zW:=aa (show St.eH true f [] c from lL);clear hG hk hown hownp hU lL hzz iN;go_wp2;go_ret;exact⟨_,f,c,rfl,HO.out,zW.out,by omega,by omega,by omega,HG.out,HK.out⟩
   obtain⟨q,rfl⟩:∃q,j=q+1:=⟨j-1,by omega⟩;obtain rfl:zz=(q:Int):=by omega
   have hq2:q<op.length:=by omega
   obtain⟨dt,rfl,hb10B,iY,hc10⟩:=fg hownp (by omega);have Oc:=j6 op q hq2;have p1:=hc10 _ _ Oc.2.1;have p2:=hc10 _ _ Oc.2.2;have hsm:=(lL.small op[q] (List.mem_take_iff_getElem.2 ⟨q,by omega,rfl⟩)).1;have zW:=aa (JO lL hq2)
   have zM:(UO A9 f.length c9).ownBlock≠some dt:=by
    rcases hU with h|h
    ·rw[h];exact λe=>by cases e
    exact h
   generalize op[q]=y at p1 p2 hsm zW;obtain⟨yk,yt,yi⟩:=y;simp only at p1 p2 hsm zW;have hnl:=St.uE yt;have hy0:(0:Int)<=(q:Int):=by omega
   have hy1:(q:Int)<(op.length:Int):=by omega
   haveI:af dt wr:=af.of iY;have e0:=p1;have e1:=p2;clear hG hk hown hownp hU lL hzz Oc hc10 iN LF;go_wp2_with fail;refine wp_region_any (by kernel_rfl) ?_
   try (change wpAny _ _ _ _ _ _ _ (World.drew _))
   refine dk (l':=#[bF,bF,bF,bF,bF,bF,bF,bF,bF,bF,bF,bF,bF,bF,bF,bF]) (by kernel_rfl) ?_;refine wpAny_take (i:=0) (oi:=⟨some 125,_,_,_,_,_⟩) (v:=?_) rfl (by kernel_rfl) (by kernel_rfl) (by kernel_rfl) (λ_ _ _ h=>h) (Or.inl ⟨by rfl,?_⟩) ?_;rotate_left 1
   ·(intro W9;go_simp;try with_reducible rfl)
   conv=>arg 7;simp only[Act.put,aq,al,ar]
   refine dk (l':=#[bT,bF,bF,bF,bF,bF,bF,bF,bF,bF,bF,bF,bF,bF,bF,bF]) (by kernel_rfl) ?_;refine wpAny_take (i:=1) (oi:=⟨some 126,_,_,_,_,_⟩) (v:=?_) rfl (by kernel_rfl) (by kernel_rfl) (by kernel_rfl) (λ_ _ _ h=>h) (Or.inl ⟨by rfl,?_⟩) ?_;rotate_left 1
   ·(intro W9;go_simp;try with_reducible rfl)
   conv=>arg 7;simp only[Act.put,aq,al,ar]
   refine dk (l':=#[bT,bT,bF,bF,bF,bF,bF,bF,bF,bF,bF,bF,bF,bF,bF,bF]) (by kernel_rfl) ?_;refine wpAny_take (i:=2) (oi:=⟨some 127,_,_,_,_,_⟩) (v:=?_) rfl (by kernel_rfl) (by kernel_rfl) (by kernel_rfl) (λ_ _ _ h=>h) (Or.inl ⟨by rfl,?_⟩) ?_;rotate_left 1
   ·(intro W9;go_simp;try with_reducible rfl)
   conv=>arg 7;simp only[Act.put,aq,al,ar]
   refine dk (l':=#[bT,bT,bT,bF,bF,bF,bF,bF,bF,bF,bF,bF,bF,bF,bF,bF]) (by kernel_rfl) ?_;refine wpAny_take (i:=3) (oi:=⟨some 128,_,_,_,_,_⟩) (v:=?_) rfl (by kernel_rfl) (by kernel_rfl) (by kernel_rfl) (λ_ _ _ h=>h) (Or.inl ⟨by rfl,?_⟩) ?_;rotate_left 1
   ·(intro W9;go_simp;try with_reducible rfl)
   conv=>arg 7;simp only[Act.put,aq,al,ar]
   refine dk (l':=#[bT,bT,bT,bT,bF,bF,bF,bF,bF,bF,bF,bF,bF,bF,bF,bF]) (by kernel_rfl) ?_;refine wpAny_take (i:=4) (oi:=⟨some 129,_,_,_,_,_⟩) (v:=?_) rfl (by kernel_rfl) (by kernel_rfl) (by kernel_rfl) (λ_ _ _ h=>h) (Or.inl ⟨by rfl,?_⟩) ?_;rotate_left 1
   ·(intro W9;go_simp;try with_reducible rfl)
   conv=>arg 7;simp only[Act.put,aq,al,ar]
   refine dk (l':=#[bT,bT,bT,bT,bT,bF,bF,bF,bF,bF,bF,bF,bF,bF,bF,bF]) (by kernel_rfl) ?_;refine wpAny_take (i:=7) (oi:=⟨some 132,_,_,_,_,_⟩) (v:=?_) rfl (by kernel_rfl) (by kernel_rfl) (by kernel_rfl) (λ_ _ _ h=>h) (Or.inl ⟨by rfl,?_⟩) ?_;rotate_left 1
   ·(intro W9;go_simp;try with_reducible rfl)
   conv=>arg 7;simp only[Act.put,aq,al,ar]
   refine dk (l':=#[bT,bT,bT,bT,bT,bF,bF,bT,bF,bF,bF,bF,bF,bF,bF,bF]) (by kernel_rfl) ?_;refine wpAny_take (i:=8) (oi:=⟨some 133,_,_,_,_,_⟩) (v:=?_) rfl (by kernel_rfl) (by kernel_rfl) (by kernel_rfl) (λ_ _ _ h=>h) (Or.inl ⟨by rfl,?_⟩) ?_;rotate_left 1
   ·(intro W9;go_simp;try with_reducible rfl)
   conv=>arg 7;simp only[Act.put,aq,al,ar]
   refine dk (l':=#[bT,bT,bT,bT,bT,bF,bF,bT,bT,bF,bF,bF,bF,bF,bF,bF]) (by kernel_rfl) ?_;refine wpAny_take (i:=9) (oi:=⟨some 134,_,_,_,_,_⟩) (v:=?_) rfl (by kernel_rfl) (by kernel_rfl) (by kernel_rfl) (λ_ _ _ h=>h) (Or.inl ⟨by rfl,?_⟩) ?_;rotate_left 1
   ·(intro W9;go_simp;try with_reducible rfl)
   conv=>arg 7;simp only[Act.put,aq,al,ar]
   refine dk (l':=#[bT,bT,bT,bT,bT,bF,bF,bT,bT,bT,bF,bF,bF,bF,bF,bF]) (by kernel_rfl) ?_;refine wpAny_take (i:=10) (oi:=⟨some 135,_,_,_,_,_⟩) (v:=?_) rfl (by kernel_rfl) (by kernel_rfl) (by kernel_rfl) (λ_ _ _ h=>h) (Or.inl ⟨by rfl,?_⟩) ?_;rotate_left 1
   ·(intro W9;go_simp;try with_reducible rfl)
   conv=>arg 7;simp only[Act.put,aq,al,ar]
   refine dk (l':=#[bT,bT,bT,bT,bT,bF,bF,bT,bT,bT,bT,bF,bF,bF,bF,bF]) (by kernel_rfl) ?_;refine wpAny_of_held (S:=λW=>W.cell? ⟨dt,q*3+1,none⟩=some (UN ⟨yt.toArray⟩)/\W.cell? ⟨dt,q*3+2,none⟩=some (UM US yi)) _ _ _ _ ?_;refine wpAnyH_take (i:=5) (oi:=⟨some 130,_,_,_,_,_⟩) (v:=?_) rfl (by kernel_rfl) (by kernel_rfl) (by kernel_rfl) (λ_ _ _ h=>h) (Or.inl ⟨by rfl,?_⟩) ?_ ?_;rotate_left 1
   ·(intro W9 az;have dh:W9.cell? ⟨dt,q*3+1,none⟩=some (UN ⟨yt.toArray⟩):=az.1;have di:W9.cell? ⟨dt,q*3+2,none⟩=some (UM US yi):=az.2;clear az;go_simp;try with_reducible rfl)
   ·first|assumption|exact⟨e0,e1⟩|(refine⟨?_,?_⟩<;>(go_simp;done))
   conv=>arg 8;simp only[Act.put,aq,al,ar]
   refine jX (l':=#[bT,bT,bT,bT,bT,bT,bF,bT,bT,bT,bT,bF,bF,bF,bF,bF]) (by kernel_rfl) ?_;refine wpAnyH_take (i:=11) (oi:=⟨some 136,_,_,_,_,_⟩) (v:=?_) rfl (by kernel_rfl) (by kernel_rfl) (by kernel_rfl) (λ_ _ _ h=>h) (Or.inl ⟨by rfl,?_⟩) ?_ ?_;rotate_left 1
   ·(intro W9 az;have dh:W9.cell? ⟨dt,q*3+1,none⟩=some (UN ⟨yt.toArray⟩):=az.1;have di:W9.cell? ⟨dt,q*3+2,none⟩=some (UM US yi):=az.2;clear az;go_simp;try with_reducible rfl)
   ·first|assumption|exact⟨e0,e1⟩|(refine⟨?_,?_⟩<;>(go_simp;done))
   conv=>arg 8;simp only[Act.put,aq,al,ar]
   refine jX (l':=#[bT,bT,bT,bT,bT,bT,bF,bT,bT,bT,bT,bT,bF,bF,bF,bF]) (by kernel_rfl) ?_;refine wpAnyH_ready (rs:=[6]) (by kernel_rfl) (by simp) ?_;refine AllReadyH.cons (o:=⟨some 131,_,_,_,_,_⟩) rfl (λK hK=>?_) AllReadyH.nil;refine tU (o:=⟨some 131,_,_,_,_,_⟩) rfl 105 #[UN ⟨yt.toArray⟩] _ (kc yt _ (by omega)) ?_ ?_
   ·go_simp
   rintro e W2 ⟨rfl,hu⟩;refine⟨_,rfl,?_⟩;have hu2:ac wr W2:=(ac.refl wr).drew.trans hu;have e0:=(hu2.cell (p:=⟨dt,q*3+1,none⟩) iY).trans p1;have e1:=(hu2.cell (p:=⟨dt,q*3+2,none⟩) iY).trans p2;haveI:af dt W2:=af.of (Nat.lt_of_lt_of_le iY hu2.size);have aZ:=aa hu2;clear hu hu2;refine hK _ _ ⟨?_,?_⟩
   ·clear hK K;first|assumption|exact⟨e0,e1⟩|(refine⟨?_,?_⟩<;>(go_simp;done))
   clear hK K
   conv=>arg 8;simp only[Act.put,aq,al,ar]
   refine jX (l':=#[bT,bT,bT,bT,bT,bT,bT,bT,bT,bT,bT,bT,bF,bF,bF,bF]) (by kernel_rfl) ?_;refine wpAnyH_take (i:=12) (oi:=⟨some 137,_,_,_,_,_⟩) (v:=?_) rfl (by kernel_rfl) (by kernel_rfl) (by kernel_rfl) (λ_ _ _ h=>h) (Or.inl ⟨by rfl,?_⟩) ?_ ?_;rotate_left 1
   ·(intro W9 az;have dh:W9.cell? ⟨dt,q*3+1,none⟩=some (UN ⟨yt.toArray⟩):=az.1;have di:W9.cell? ⟨dt,q*3+2,none⟩=some (UM US yi):=az.2;clear az;go_simp;try with_reducible rfl)
   ·first|assumption|exact⟨e0,e1⟩|(refine⟨?_,?_⟩<;>(go_simp;done))
   conv=>arg 8;simp only[Act.put,aq,al,ar]
   refine jX (l':=#[bT,bT,bT,bT,bT,bT,bT,bT,bT,bT,bT,bT,bT,bF,bF,bF]) (by kernel_rfl) ?_;refine wpAnyH_ready (rs:=[13]) (by kernel_rfl) (by simp) ?_;refine AllReadyH.cons (o:=⟨some 138,_,_,_,_,_⟩) rfl (λK hK=>?_) AllReadyH.nil;go_simp;have e0:(W2.alloc (UT #[UM US 3,UN ⟨(St.nameOf yt).toArray⟩,UM US yi] 36)).cell? ⟨dt,q*3+1,none⟩=some (UN ⟨yt.toArray⟩):=((aZ.out.alloc _).cell (p:=⟨dt,q*3+1,none⟩) iY).trans p1;have e1:(W2.alloc (UT #[UM US 3,UN ⟨(St.nameOf yt).toArray⟩,UM US yi] 36)).cell? ⟨dt,q*3+2,none⟩=some (UM US yi):=((aZ.out.alloc _).cell (p:=⟨dt,q*3+2,none⟩) iY).trans p2;refine hK _ _ ⟨?_,?_⟩
   ·clear hK K;first|assumption|exact⟨e0,e1⟩|(refine⟨?_,?_⟩<;>(go_simp;done))
   clear hK K
   conv=>arg 8;simp only[Act.put,aq,al,ar]
   refine jX (l':=#[bT,bT,bT,bT,bT,bT,bT,bT,bT,bT,bT,bT,bT,bT,bF,bF]) (by kernel_rfl) ?_;refine wpAnyH_ready (rs:=[14]) (by kernel_rfl) (by simp) ?_;refine AllReadyH.cons (o:=⟨some 139,_,_,_,_,_⟩) rfl (λK hK=>?_) AllReadyH.nil;refine sY (o:=⟨some 139,_,_,_,_,_⟩) rfl _ _ rfl w.1.size (UO A9 f.length c9) f.length f rfl (aE (aZ.out.alloc _) HO.out) ⟨W2.1.size,0,none⟩ 1 1 [(3,St.nameOf yt,yi)] rfl (cF _ _ _ _ _ (by simp) (by simp) (by simp) (by simp)) rfl (by omega) (by have:=HK.out.size;have:=aZ.out.size;simp;omega) ?_;intro v' w6 AY vA hfr;have e0:=(dd vA (p:=⟨dt,q*3+1,none⟩) (by have:=aZ.out.size;simp;omega) (λe=>zM e.symm)).trans (((aZ.out.alloc _).cell (p:=⟨dt,q*3+1,none⟩) iY).trans p1);have e1:=(dd vA (p:=⟨dt,q*3+2,none⟩) (by have:=aZ.out.size;simp;omega) (λe=>zM e.symm)).trans (((aZ.out.alloc _).cell (p:=⟨dt,q*3+2,none⟩) iY).trans p2);have hrow:∀x,(UO A9 f.length c9).ownBlock=some x->w.1.size<=x:=λx hx=>aG HO.out x hx
   have Np:=aa AY;have rG:=aa ((aE (aZ.out.alloc _) HP.out).kept vA (.inr (λe=>zM e.symm)));have u5:=aa ((HG.out.ai (aZ.out.alloc _)).gb vA (λx e=>Nat.le_trans hB (hrow x e)));have Ge:=aa (aW (cm HK.out (aZ.out.alloc _)) vA (λx e=>.inr (hrow x e)))
   have PR:v'.ownBlock=none\/v'.ownBlock≠some dt:=by
    rcases hfr with h|h
    ·rw[h];exact .inr zM
    cases hv:v'.ownBlock with
    | none=>exact .inl rfl
    | some x=>exact .inr (λe=>by have u1:=h x hv;have u2:=aZ.out.size;simp at u1 e;omega)
   clear AY vA hfr hrow HO HP HG HK;refine hK _ _ ⟨?_,?_⟩
   ·clear hK K;first|assumption|exact⟨e0,e1⟩|(refine⟨?_,?_⟩<;>(go_simp;done))
   clear hK K
   conv=>arg 8;simp only[Act.put,aq,al,ar]
   refine jX (l':=#[bT,bT,bT,bT,bT,bT,bT,bT,bT,bT,bT,bT,bT,bT,bT,bF]) (by kernel_rfl) ?_;refine wpAnyH_take (i:=15) (oi:=⟨some 9,_,_,_,_,_⟩) (v:=?_) rfl (by kernel_rfl) (by kernel_rfl) (by kernel_rfl) (λ_ _ _ h=>h) (Or.inl ⟨by rfl,?_⟩) ?_ ?_;rotate_left 1
   ·(intro W9 az;have dh:W9.cell? ⟨dt,q*3+1,none⟩=some (UN ⟨yt.toArray⟩):=az.1;have di:W9.cell? ⟨dt,q*3+2,none⟩=some (UM US yi):=az.2;clear az;go_simp;try with_reducible rfl)
   ·first|assumption|exact⟨e0,e1⟩|(refine⟨?_,?_⟩<;>(go_simp;done))
   conv=>arg 8;simp only[Act.put,aq,al,ar]
   refine jX (l':=#[bT,bT,bT,bT,bT,bT,bT,bT,bT,bT,bT,bT,bT,bT,bT,bT]) (by kernel_rfl) ?_;refine wpAnyH_done (by kernel_rfl) ?_ _;go_wp2;exact⟨⟨q,_,f++[(3,St.nameOf yt,yi)],rfl,rfl,by omega,by simpa using Np.out,rG.out,PR,zW.out,by simp;omega,by rw[cR];show bc f+(St.nameOf yt).length+5*q<=_;omega,u5.out,Ge.out⟩,by first|(simp[intOf];done)|(simp[intOf];omega)⟩
theorem GY(B g P n:Nat)(w:UY)(hG:bK w B g P)(hP:P<=100000)(hn:n<=100) :
  Calls Tryz.prog 66 #[UQ (some ⟨g,0,none⟩),UM US n,UP true,UP true] w (zP w B g P n):=GZ true B g P n w hG hP hn
end
