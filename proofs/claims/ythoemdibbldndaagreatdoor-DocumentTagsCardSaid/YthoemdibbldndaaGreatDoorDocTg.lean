/- The law DocumentTags: walk. Conditions: the library's tables lie at their. -/
import Derived.Test.YthoemdibbldndaaGreatDoorHvDoc
import Derived.Test.YthoemdibbldndaaGreatDoorDocCt
set_option linter.all false
set_option maxHeartbeats 0
set_option maxRecDepth 20000
open Go.Value renaming int->UM,string->UN,slice->UO
open Go.IntKind renaming i64->US
open Go.Obj renaming cells->UT
open Option renaming none->UW,some->UX
namespace Go.Proofs.YthoemdibbldndaaGreatDoor
open Go.RowKit
theorem DQ(w:World){B:Nat}(hb:B<=w.1.size)(cur:Array Value)(e:TypeId)(size n:Nat)(hm:n<=1000)(hs:cur.size=n*size):(w.alloc (UT cur e)).ownsRow B e size (UO (UX ⟨w.1.size,0,UW⟩) n n) n cur.toList:=
 ⟨by simp[hs],.inr ⟨w.1.size,n,cur,rfl,hb,heap_alloc_new w _,Nat.le_refl _,by unfold maxLen;omega,hs,List.take_of_length_le (by simp[hs])⟩⟩
theorem vY(w:World)(a b:Int):fB (w.alloc (UT #[UM US a,UM US b] 33)) (UX ⟨w.1.size,0,UW⟩) [(a,b)]:=λ_=>
 ⟨_,0,rfl,by simp,λj hj=>by
  have hj:j<1:=hj;obtain rfl:j=0:=by omega
  exact⟨ak (heap_alloc_new w _) 0,ak (heap_alloc_new w _) 1⟩⟩
theorem zf{w:World}{T:Option Addr}{t:List St.It}{n c:Nat}(hn:t.length=n)(h:aO w T t)(h1:n<=c)(h2:c<=9223372036854775807)(h3:T=UW->c=0):iy (w.alloc (UT #[UO T n c] 37)) (UX ⟨w.1.size,0,UW⟩) [t]:=λ_=>
 ⟨_,0,rfl,by simp,λj hj=>by
  have hj:j<1:=hj;obtain rfl:j=0:=by omega
  subst hn
  exact⟨T,c,ak (heap_alloc_new w _) 0,h.ai ((ac.refl _).alloc _),h1,h2,h3⟩⟩
theorem KO(A:Option Addr)(n c:Nat)(zs:List Int)(part:Int)(closed:Bool)(w:World)(hL:Mk.kD w)(hz:zs.length=n)(hn:n<=9223372036854775807)(hI:iv w A zs) :
  Calls Tryz.prog 11 #[UO A n c,UM US part,.bool closed] w λe w'=>e=.returned (.bool true)/\ac w w':=by
 have zY:=aa hL;have Qf:=aa (λW (hW:ac w W)=>Cx W (zY.out.ai hW));have Qh:=aa (λW (hW:ac w W)=>Cv A n c zs W hz hn (hI.ai hW));clear hL hI hz
 by_cases bad:200<n
 ·have z1:(200:Int)<(n:Int):=by omega
  go_enter Tryz.func11,Tryz.ntmps11;go_wp2_with fail;refine(Qf.out _ (ac.refl _)).mono ?_;rintro e w2 ⟨rfl,hu⟩;have HU:=aa hu;clear hu;go_wp2;go_ret;exact⟨rfl,HU.out⟩
 have z1:¬(200:Int)<(n:Int):=by omega
 obtain⟨i9,h9a,h9b,h9c,h9d⟩:=info_parts dw;go_enter Tryz.func11,Tryz.ntmps11;go_wp2_with fail;refine(Qh.out _ (ac.refl _)).mono ?_;rintro e w2 ⟨fm,A2,c2,ps,rfl,hM,hP2,k1,k2,hu2⟩;have hrl:=hM.from.raw
 have hpl:=hM.from.len
 have hkn:=hM.kn;have HM:=aa hM;have gz:=aa hP2;have aZ:=aa hu2;have hs2:=hu2.size;have hun:=aa (λW (hW:ac w2 W)=>F3 fm A2 ps.length c2 ps part W rfl (gz.out.ai hW) (by omega));clear hM hP2 hu2 Qh;go_wp2_with fail;have Hy:=heap_alloc_new w2 (UT #[UM US fm,UO A2 ps.length c2] 25);have km:ac w2 (w2.alloc (UT #[UM US fm,UO A2 ps.length c2] 25)):=(ac.refl _).alloc _;generalize w2.alloc (UT #[UM US fm,UO A2 ps.length c2] 25)=ws at *;obtain⟨xd,hxd⟩:∃xd,xd=w2.1.size:=⟨_,rfl⟩;rw[<-hxd]at Hy |-;have HX:=aa Hy;have Lj:=aa km;clear km Hy hxd;refine(hun.out _ Lj.out).mono ?_;rintro e w3 ⟨rfl,hu3⟩;have bm:=aa hu3;generalize F4 ps part=uk;have hb3:=(hu3.below.block xd (ae HX.out)).trans HX.out;have d0:w3.cell? ⟨xd,0,UW⟩=UX (UM US fm):=by rw[ak hb3];rfl
 have d1:w3.cell? ⟨xd,1,UW⟩=UX (UO A2 ps.length c2):=by rw[ak hb3];rfl
 haveI:af xd w3:=af.of (ae hb3);have hrc:=BS fm A2 ps.length c2 ps uk w3 rfl (gz.out.ai (Lj.out.trans hu3)) (by omega) (by omega);have OF:=λh0=>HM.out.unit (k:=(uk:Int)) h0
 have ir:=aa OF;obtain⟨ss,E0⟩:=Js hkn ps uk;generalize QB:CD fm ps uk=RC at hrc ss E0;obtain⟨f,cu,pl,er⟩:=RC;simp only at ss E0;have Qp:=aa hrc;have u0:=aa QB;clear hrc hu3 hb3 hun OF QB;go_wp2_with fail;refine Qp.out.mono ?_;rintro e w4 ⟨A5,c5,rfl,o8,h51,h52,a6⟩;simp only at o8 h51 |-;have fE:=aa (Lj.out.trans (bm.out.trans a6));have Gq:=aa (((bm.out.trans a6).below.block xd (ae HX.out)).trans HX.out);have Qc:=aa o8;have Jh:=aa (λW (hW:ac w4 W)=>Qf.out W ((aZ.out.trans fE.out).trans hW));clear a6 o8 d0 d1 HX Lj bm Qp
 by_cases he:er=0
 ·subst he;obtain⟨p,us,i,f',qs,q,hps,hki,hD,h10,NR,hzz,jK⟩:=ir.out (by rw[u0.out]);have Hn:f=f':=by rw[u0.out]at jK;exact(Prod.mk.inj jK).1
  subst Hn;have cV:=St.IY hD h10 NR hzz closed;rw[<-hps,<-hki]at cV;have dK:=aa cV;have LO:=Gq.out;have d0:w4.cell? ⟨xd,0,UW⟩=UX (UM US fm):=by rw[ak LO];rfl
  have d1:w4.cell? ⟨xd,1,UW⟩=UX (UO A2 ps.length c2):=by rw[ak LO];rfl
  haveI:af xd w4:=af.of (ae LO);clear cV hD hzz jK hps hki LO ir u0;cases closed
  ·go_wp2_with fail;have hit:aO (w4.alloc (UT #[UM US 2,UN ⟨#[98]⟩,UM US 999] 36)) (UX ⟨w4.1.size,0,UW⟩) (St.dQ false 999):=aX (DQ w4 (Nat.le_refl _) _ 36 3 1 (by decide) rfl) rfl;have bo:ac w4 (w4.alloc (UT #[UM US 2,UN ⟨#[98]⟩,UM US 999] 36)):=(ac.refl _).alloc _;obtain⟨T,hT⟩:∃T,T=UX (⟨w4.1.size,0,UW⟩:Addr):=⟨_,rfl⟩;have hcs:(St.dQ false 999).length<=1/\1<=9223372036854775807/\(T=UW->1=0):=⟨by decide,by omega,λe=>by rw[hT]at e;cases e⟩;rw[<-hT]at hit;have HIT:=aa hit;have cL:=aa bo;generalize w4.alloc (UT #[UM US 2,UN ⟨#[98]⟩,UM US 999] 36)=w5 at HIT cL |-;rw[<-hT];clear hit bo hT;refine(kA A5 f.length c5 f w5 rfl (Qc.out.ai cL.out) (by omega) (by omega)).mono ?_;rintro e w6 ⟨rfl,rfl⟩;have sH:=(cL.out.below.block xd (ae Gq.out)).trans Gq.out;clear d0 d1;have d0:w5.cell? ⟨xd,0,UW⟩=UX (UM US fm):=by rw[ak sH];rfl
   have d1:w5.cell? ⟨xd,1,UW⟩=UX (UO A2 ps.length c2):=by rw[ak sH];rfl
   haveI:af xd w5:=af.of (ae sH);have Gr:=aa sH;clear sH;go_wp2_with fail;have hW:ac w5 ((w5.alloc (UT #[UM US (St.ay f:Nat),UM US (St.ay f:Nat)] 33)).alloc (UT #[UO T 1 1] 37)):=((ac.refl _).alloc _).alloc _;have hW2:ac w2 _:=fE.out.trans (cL.out.trans hW);have hrg:=(vY w5 (St.ay f:Nat) (St.ay f:Nat)).ai ((ac.refl _).alloc (UT #[UO T 1 1] 37));have ny:=zf (w:=w5.alloc (UT #[UM US (St.ay f:Nat),UM US (St.ay f:Nat)] 33)) (n:=1) (c:=1) (t:=St.dQ false 999) rfl (HIT.out.ai ((ac.refl _).alloc _)) hcs.1 hcs.2.1 hcs.2.2;rw[show(w5.alloc (UT #[UM US (St.ay f:Nat),UM US (St.ay f:Nat)] 33)).1.size=w5.1.size+1 by simp]at ny;have jL:=sh fm hkn A2 _ _ ps.length c2 1 1 1 1 ps uk [((St.ay f:Nat),(St.ay f:Nat))] [St.dQ false 999] _ (zY.out.ai (aZ.out.trans hW2)) rfl k1 k2 rfl rfl (gz.out.ai hW2) hrg ny hpl hrl (by omega) (by decide);have jD:=aa jL;have Em:=aa (λW hh=>Jh.out W ((cL.out.trans hW).trans hh));have iu:=aa (aZ.out.trans hW2);clear jL hrg ny hW hW2;refine jD.out.mono ?_;rintro e w9 ⟨A9,c9,rfl,_,_,_,lj⟩;have hR:=dK.out;clear jD dK;generalize St.fh (kj fm) (pZ fm) (St.bj fm) fm ps (uk:Int) [((St.ay f:Nat),(St.ay f:Nat))] [St.dQ false 999]=R at hR |-;obtain⟨⟨r1,r2⟩,r3⟩:=R;simp only at hR |-;have Bh:=((((ac.refl _).alloc _).alloc _).trans lj:ac w5 w9).below.block xd (ae Gr.out) |>.trans Gr.out
   have cy:=aa lj;clear lj d0 d1;have d0:w9.cell? ⟨xd,0,UW⟩=UX (UM US fm):=by rw[ak Bh];rfl
   haveI:af xd w9:=af.of (ae Bh);clear Bh;rw[if_neg (by simp)]at hR;subst hR;go_wp2_with fail;refine(Em.out _ (cy.out.alloc _)).mono ?_;rintro e kC ⟨rfl,hu10⟩;have HE:=aa (iu.out.trans ((cy.out.alloc _).trans hu10));clear hu10;go_wp2;go_ret;exact⟨rfl,HE.out⟩
  go_wp2_with (at_builtin;refine wpList_append_own _ rfl _ _ 37 rfl w4.1.size 36 i9 (.agg #[.int .i64 0,.string ⟨#[]⟩,.int .i64 0]) 3 32 Tryz.underlying37 h9a h9b h9c h9d rfl (by decide) (.slice (some ⟨w4.1.size,0,none⟩) 1 1) 1 _ rfl ((DQ w4 (Nat.le_refl _) _ 36 3 1 (by decide) rfl).alloc _) _ 1 1 [.int .i64 3,.string ⟨#[98]⟩,.int .i64 999] rfl rfl ?qa1 (cN _ _ _) (by unfold maxLen;omega) (by omega) ?qa3 ?_)
  case qa3=>omega
  intro v5 w5 Fc Ho _;obtain⟨T,ct,rfl,hc1,hc2,hA⟩:=aT Fc;have HIT:=aa (show aO w5 T (St.dQ true 999)from aX Fc rfl);have cL:=aa ((((ac.refl w4).alloc _).alloc _).grown Ho (λg e=>by cases e;exact Nat.le_refl _));have hcs:(St.dQ true 999).length<=ct/\ct<=9223372036854775807/\(T=UW->ct=0):=⟨hc1,by unfold maxLen at hc2;omega,hA⟩;clear Fc Ho hc1 hc2 hA;go_wp2_with fail;refine(kA A5 f.length c5 f w5 rfl (Qc.out.ai cL.out) (by omega) (by omega)).mono ?_;rintro e w6 ⟨rfl,rfl⟩;have sH:=(cL.out.below.block xd (ae Gq.out)).trans Gq.out;clear d0 d1;have d0:w5.cell? ⟨xd,0,UW⟩=UX (UM US fm):=by rw[ak sH];rfl
  have d1:w5.cell? ⟨xd,1,UW⟩=UX (UO A2 ps.length c2):=by rw[ak sH];rfl
  haveI:af xd w5:=af.of (ae sH);have Gr:=aa sH;clear sH;go_wp2_with fail;have hW:ac w5 ((w5.alloc (UT #[UM US (St.ay f:Nat),UM US (St.ay f:Nat)] 33)).alloc (UT #[UO T 2 ct] 37)):=((ac.refl _).alloc _).alloc _;have hW2:ac w2 _:=fE.out.trans (cL.out.trans hW);have hrg:=(vY w5 (St.ay f:Nat) (St.ay f:Nat)).ai ((ac.refl _).alloc (UT #[UO T 2 ct] 37));have ny:=zf (w:=w5.alloc (UT #[UM US (St.ay f:Nat),UM US (St.ay f:Nat)] 33)) (n:=2) (c:=ct) (t:=St.dQ true 999) rfl (HIT.out.ai ((ac.refl _).alloc _)) hcs.1 hcs.2.1 hcs.2.2;rw[show(w5.alloc (UT #[UM US (St.ay f:Nat),UM US (St.ay f:Nat)] 33)).1.size=w5.1.size+1 by simp]at ny;have jL:=sh fm hkn A2 _ _ ps.length c2 1 1 1 1 ps uk [((St.ay f:Nat),(St.ay f:Nat))] [St.dQ true 999] _ (zY.out.ai (aZ.out.trans hW2)) rfl k1 k2 rfl rfl (gz.out.ai hW2) hrg ny hpl hrl (by omega) (by decide);have jD:=aa jL;have Em:=aa (λW hh=>Jh.out W ((cL.out.trans hW).trans hh));have iu:=aa (aZ.out.trans hW2);clear jL hrg ny hW hW2;refine jD.out.mono ?_;rintro e w9 ⟨A9,c9,rfl,_,_,_,lj⟩;have hR:=dK.out;clear jD dK;generalize St.fh (kj fm) (pZ fm) (St.bj fm) fm ps (uk:Int) [((St.ay f:Nat),(St.ay f:Nat))] [St.dQ true 999]=R at hR |-;obtain⟨⟨r1,r2⟩,r3⟩:=R;simp only at hR |-;have Bh:=((((ac.refl _).alloc _).alloc _).trans lj:ac w5 w9).below.block xd (ae Gr.out) |>.trans Gr.out
  have cy:=aa lj;clear lj d0 d1;have d0:w9.cell? ⟨xd,0,UW⟩=UX (UM US fm):=by rw[ak Bh];rfl
  haveI:af xd w9:=af.of (ae Bh);clear Bh
  by_cases h1:fm=1
  ·rw[if_pos ⟨trivial,h1⟩]at hR;subst hR h1;go_wp2_with fail;refine(Em.out _ (cy.out.alloc _)).mono ?_;rintro e kC ⟨rfl,hu10⟩;have HE:=aa (iu.out.trans ((cy.out.alloc _).trans hu10));clear hu10;go_wp2;go_ret;exact⟨rfl,HE.out⟩
  rw[if_neg (λhh=>h1 hh.2)]at hR;subst hR;have z6:(fm==1)=false:=by simpa using h1
  clear h1;go_wp2_with fail;refine(Em.out _ (cy.out.alloc _)).mono ?_;rintro e kC ⟨rfl,hu10⟩;have HE:=aa (iu.out.trans ((cy.out.alloc _).trans hu10));clear hu10;go_wp2;go_ret;exact⟨rfl,HE.out⟩
 have z3:(er==0)=false:=by simpa using he
 have z4:(er != 0)=true:=by simpa using he
 go_wp2_with fail;refine(Jh.out _ (ac.refl _)).mono ?_;rintro e w5 ⟨rfl,hu⟩;have HU:=aa ((aZ.out.trans fE.out).trans hu);clear hu;go_wp2;go_ret;exact⟨rfl,HU.out⟩
