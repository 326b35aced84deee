/- The contract of the reference's Decode: what it gives is St.decT of the format's element. -/
import Derived.Test.YthoemdibbldndaaGreatDoorGH
import Derived.Test.YthoemdibbldndaaGreatDoorGD
import Derived.Test.YthoemdibbldndaaGreatDoorRefCheck
set_option linter.all false
set_option maxHeartbeats 0
set_option maxRecDepth 20000
open Go.Value renaming int->UM,string->UN,slice->UO,tuple->UR
open Go.IntKind renaming i64->US
open Go.Obj renaming cells->UT
open Go renaming World->UY
namespace Go.Proofs.YthoemdibbldndaaGreatDoor
open Go.RowKit
def K3(E:List UInt8->St.El):Prop:=∀l k t n,E l=some (k,t,n)->(k=0\/k=1\/k=2\/k=3\/k=4\/k=5)/\1<=n/\n<=l.length/\t.length<=n
def LX(op:List St.It)(n:Nat):Prop:=∀o∈op,o.2.1.length<=n
def Pj(w:UY)(E:List UInt8->St.El)(raw:ByteArray)(s8 s9 dZ gi s12 qu:Value)(wr:UY):Prop:=
 ∃(a d c:Nat) (f op:List St.It) (cuts:List Nat) (fuel:Nat),gi=UM US a/\s12=UM US d/\qu=UM US c/\a<=raw.size/\raw.size-a<=fuel /\
  wr.ownsRow w.1.size 36 3 s8 f.length (av f)/\wr.ownsRow w.1.size 36 3 s9 op.length (av op)/\wr.ownsRow w.1.size 3 1 dZ cuts.length (ew cuts)/\St.Nm f/\bc f<=a/\f.length<=512/\cuts.length<=1024 /\
  op.length<=cuts.length/\c<=cuts.length/\LX op raw.size /\
  St.dl E raw.size raw.1.1 0 0 [] [] [] 0=St.dl E fuel (raw.1.1.drop a) a d f cuts op c/\ac w wr
theorem sP(fmt:Int)(E:List UInt8->St.El)(hE:zO fmt E)(hok:K3 E)(raw:ByteArray)(w:UY)(hr:raw.size<=4611686018427387904) :
  Calls Tryz.prog 63 #[UM US fmt,UN raw] w (dx (St.dl E raw.size raw.1.1 0 0 [] [] [] 0) w):=by
 obtain⟨i0,hi,hz0,hz1,hz2⟩:=info_parts gv;obtain⟨j0,ji,jz0,jz1,jz2⟩:=info_parts dw;go_enter Tryz.func63,Tryz.ntmps63;go_wp2;go_loopw [8,9,10,11,12,13] (λs8 s9 dZ gi s12 qu wr=>Pj w E raw s8 s9 dZ gi s12 qu wr) (λ_ _ _ gi _ _ _=>raw.size+1-(intOf gi).toNat)
 case atStart=>exact⟨0,0,0,[],[],[],raw.size,rfl,rfl,rfl,by omega,by omega,World.ownsRow_nil _ _ _ _,World.ownsRow_nil _ _ _ _,World.ownsRow_nil _ _ _ _,St.oE,by simp[bc],by simp,by simp,by simp,by simp,(λo ho=>by cases ho),by simp,ac.refl _⟩
 case round=>
  obtain⟨a,d,c,f,op,cuts,fuel,rfl,rfl,rfl,ha,hfu,hO8,hO9,hO10,hN,ht,h1,h2,h3,h4,hS,hD,hu⟩:=hrel;have HD:=aa hD;have HU:=aa hu;have jC:=aa hO8;have rF:=aa hO9;have iU:=aa hO10;have HS:=aa hS;have hsz:=hu.size;have HN:=aa hN;clear hN hS
  by_cases hlt:a<raw.size
  ·have h0:=Df hlt;obtain⟨fuel,rfl⟩:∃m,fuel=m+1:=⟨fuel-1,by omega⟩;obtain⟨x,hx⟩:∃x,raw.extract a raw.size=x:=⟨_,rfl⟩;have hxl:x.1.1=raw.1.1.drop a:=by rw[<-hx,Lib.extract_data,List.take_of_length_le (by simp)]
   have hxs:x.size=raw.size-a:=by rw[<-hx];simp
   have hel:=λW=>hE x W (by omega) (by omega)
   rw[hxl]at hel;have jv:=aa hel;have y1:(a:Int)<=(raw.size:Int):=by omega
   have y2:(a:Int)<(raw.size:Int):=by omega
   clear hel hD hu hE;cases hs:E (raw.1.1.drop a)with
   | none=>
    have hd2:=aa (HD.out.trans (St.jH fuel a d _ cuts h0 hs));have fq:Hid (∀W,Calls Tryz.prog 104 #[UM US fmt,UN x] W λe w'=>e=.returned (UR #[.agg #[UM US 0,UN ⟨#[]⟩,UM US 0],UM US 0])/\ac W w'):=aa (by have:=jv.out;rw[hs]at this;exact this);clear hs h0 HD jv hxl hO8 hO9 hO10;go_wp2_with (go_at_call 104;refine(fq.out _).mono ?_;rintro e w2 ⟨rfl,hu2⟩);have hu3:=HU.out.trans hu2;refine bodyPost_ret (v:=UR #[UO none 0 0,UO none 0 0,UM US a,UM US 2]) (by simp[results,Tryz.results63,go_sem]) rfl ?_;unfold dx;rw[hd2.out];exact⟨_,_,rfl,World.ownsRow_nil _ _ _ _,World.ownsRow_nil _ _ _ _,uZ⟩
   | some q=>
    obtain⟨k,t,n⟩:=q;obtain⟨hk,iS,fk,htn⟩:=hok _ _ _ _ hs;have nw:a+n<=raw.size:=by simp at fk;omega
    have d0:((n:Int)==0)=false:=by simp;omega
    have iR:(raw.1.1.drop a).drop n=raw.1.1.drop (a+n):=by rw[List.drop_drop]
    have fq:Hid (∀W,Calls Tryz.prog 104 #[UM US fmt,UN x] W λe w'=>e=.returned (UR #[.agg #[UM US k,UN ⟨t.toArray⟩,UM US 0],UM US n])/\ac W w'):=aa (by have:=jv.out;rw[hs]at this;exact this);obtain⟨A8,c8,rfl,_,_,hA8⟩:=aT hO8;obtain⟨A9,c9,rfl,_,_,hA9⟩:=aT hO9;obtain⟨fT,bB,rfl,_,_,hA10⟩:=aT hO10;obtain⟨tb,fF⟩:∃tb:ByteArray,(⟨t.toArray⟩:ByteArray)=tb:=⟨_,rfl⟩;have gm:tb.1.1=t:=by rw[<-fF]
    rw[fF]at fq
    have mg:∀(i:Int) (W:UY) (b:Nat),aO W A8 f->aO W (some ⟨b,0,none⟩) [(k,t,i)]->Calls Tryz.prog 44 #[UO A8 f.length c8,UO (some ⟨b,0,none⟩) 1 1] W λe w'=>∃v,e=.returned v/\w'.ownsRow W.1.size 36 3 v (St.aP f (k,t,i)).length (av (St.aP f (k,t,i)))/\ac W w':=by
     intro i W b h h';have htx:bc (f++[(k,t,i)])<=a+n:=by rw[cR];simp only;omega
     have:=nH A8 f.length c8 f (some ⟨b,0,none⟩) 1 1 [(k,t,i)] W rfl rfl (λe=>by have:=hA8 e;omega) (λe=>by cases e) h h' (by omega) (by omega)
     rw[show St.bH (f++[(k,t,i)])=St.aP f (k,t,i)by rw[St.eE,HN.out]]at this;exact this
    have hadd:∀i:Int,St.Nm (St.aP f (k,t,i))/\bc (St.aP f (k,t,i))<=a+n/\(St.aP f (k,t,i)).length<=f.length+1:=λi=>⟨St.fy HN.out _,by have:=mA f (k,t,i);simp only at this;omega,(St.l8 f (k,t,i)).1⟩
    have pT:=aa mg;have HAD:=aa hadd;clear mg hadd hA8 hA9 hA10
    by_cases gL:k=0
    ·subst gL;have hd2:=HD.out.trans (St.lc fuel a d _ cuts h0 hs);rw[iR]at hd2;have cC:=aa hd2;clear hs h0 HD jv hxl hO8 hO9 hO10 hd2 iR fk fF gm pT HAD;go_wp2_with (go_at_call 104;refine(fq.out _).mono ?_;rintro e w2 ⟨rfl,hu2⟩);have hu3:=HU.out.trans hu2;exact⟨⟨a+n,d,c,f,op,cuts,fuel,congrArg (UM US) (by omega),rfl,rfl,nw,by omega,aE (uZ) jC.out,aE (uZ) rF.out,aE (uZ) iU.out,HN.out,by omega,h1,h2,h3,h4,HS.out,cC.out,uZ⟩,by simp[intOf];omega⟩
    have dK:=aa (λ(h:St.stepT op c k t=none)=>HD.out.trans (St.ma fuel a d f cuts h0 hs gL h));have ck:=aa (λ(i:Int) (b7:List St.It) (c':Nat) (h:St.stepT op c k t=some (i,b7,c')) hf=>HD.out.trans (St.jG fuel a d f cuts h0 hs gL h hf))
    have HST:Hid (∀(i:Int) (b7:List St.It) (c':Nat),St.stepT op c k t=some (i,b7,c')->¬(512<(St.aP f (k,t,i)).length\/1024<=cuts.length)->St.dl E raw.size raw.1.1 0 0 [] [] [] 0=St.dl E fuel (raw.1.1.drop (a+n)) (a+n) (a+n) (St.aP f (k,t,i)) (cuts++[d]) b7 c'):=aa (λi b7 c' h hf=>by
     have:=HD.out.trans (St.iQ fuel a d f cuts h0 hs gL h hf)
     rwa [iR]at this)
    clear hs h0 HD jv hxl hO8 hO9 hO10 iR fk;have hk':k=1\/k=5\/k=2\/k=4\/k=3:=by omega
    clear hk;rcases hk' with rfl|rfl|rfl|rfl|rfl
    ·have hst:St.stepT op c 1 t=some (0,op,c):=rfl;have dq:=aa (pT.out 0);have hadd:=HAD.out 0;have fI:=aa (ck.out _ _ _ hst);have cU:=aa (HST.out _ _ _ hst);generalize hg:St.aP f (1,t,0)=g at *;obtain⟨pa,hgt,hgl⟩:=hadd;have iN:=aa pa;clear hg pa hst HAD pT ck HST dK
     by_cases bV:512<g.length
     ·have cC:=aa (fI.out (.inl bV));have z5:((512:Int)<(g.length:Int)):=by omega
      clear fI cU;go_wp2_with fail;refine(fq.out _).mono ?_;rintro e w2 ⟨rfl,hu2⟩;have cy:=aa (show ac wr (w2.alloc (UT #[UM US 1,UN tb,UM US 0] 36))from hu2.alloc _);have cA:=aa (aR w2 (UT #[UM US 1,UN tb,UM US 0] 36) w2.1.size rfl);clear hu2;go_wp2_with fail;have bR:(w2.alloc (UT #[UM US 1,UN tb,UM US 0] 36)).1.size=w2.1.size+1:=by simp
      generalize w2.alloc (UT #[UM US 1,UN tb,UM US 0] 36)=W9 at *;have c0:W9.cell? ⟨w2.1.size,0,none⟩=some (UM US 1):=ak cA.out 0;have ja:=ae cA.out;refine(dq.out _ _ ?_ ?_).mono ?_
      ·exact((aX jC.out rfl).ai cy.out).ai ((ac.refl _).alloc _)
      ·rw[<-gm];exact cF _ _ _ _ _ (by rw[<-bR];simp) (by rw[<-bR];simp) (by rw[<-bR,be];simp) (by rw[<-bR];simp)
      clear bR;rintro e w3 ⟨v3,rfl,bN,hu3⟩;obtain⟨A3,c3,rfl,_,_,_⟩:=aT bN;have a6:ac wr w3:=cy.out.trans (ac.trans (uZ) hu3);have bo:=HU.out.trans a6;clear bN hu3 a6 c0;go_wp2;refine bodyPost_ret (v:=UR #[UO none 0 0,UO none 0 0,UM US a,UM US 3]) (by simp[results,Tryz.results63,go_sem]) rfl ?_;unfold dx;rw[cC.out];exact⟨_,_,rfl,World.ownsRow_nil _ _ _ _,World.ownsRow_nil _ _ _ _,bo⟩
     have z5:¬((512:Int)<(g.length:Int)):=by omega
     by_cases eh:1024<=cuts.length
     ·have cC:=aa (fI.out (.inr eh));have z6:((1024:Int)<=(cuts.length:Int)):=by omega
      clear fI cU;go_wp2_with fail;refine(fq.out _).mono ?_;rintro e w2 ⟨rfl,hu2⟩;have cy:=aa (show ac wr (w2.alloc (UT #[UM US 1,UN tb,UM US 0] 36))from hu2.alloc _);have cA:=aa (aR w2 (UT #[UM US 1,UN tb,UM US 0] 36) w2.1.size rfl);clear hu2;go_wp2_with fail;have bR:(w2.alloc (UT #[UM US 1,UN tb,UM US 0] 36)).1.size=w2.1.size+1:=by simp
      generalize w2.alloc (UT #[UM US 1,UN tb,UM US 0] 36)=W9 at *;have c0:W9.cell? ⟨w2.1.size,0,none⟩=some (UM US 1):=ak cA.out 0;have ja:=ae cA.out;refine(dq.out _ _ ?_ ?_).mono ?_
      ·exact((aX jC.out rfl).ai cy.out).ai ((ac.refl _).alloc _)
      ·rw[<-gm];exact cF _ _ _ _ _ (by rw[<-bR];simp) (by rw[<-bR];simp) (by rw[<-bR,be];simp) (by rw[<-bR];simp)
      clear bR;rintro e w3 ⟨v3,rfl,bN,hu3⟩;obtain⟨A3,c3,rfl,_,_,_⟩:=aT bN;have a6:ac wr w3:=cy.out.trans (ac.trans (uZ) hu3);have bo:=HU.out.trans a6;clear bN hu3 a6 c0;go_wp2;refine bodyPost_ret (v:=UR #[UO none 0 0,UO none 0 0,UM US a,UM US 3]) (by simp[results,Tryz.results63,go_sem]) rfl ?_;unfold dx;rw[cC.out];exact⟨_,_,rfl,World.ownsRow_nil _ _ _ _,World.ownsRow_nil _ _ _ _,bo⟩
     have z6:¬((1024:Int)<=(cuts.length:Int)):=by omega
     have cC:=aa (cU.out (by omega));clear fI cU;go_wp2_with fail;refine(fq.out _).mono ?_;rintro e w2 ⟨rfl,hu2⟩;have cy:=aa (show ac wr (w2.alloc (UT #[UM US 1,UN tb,UM US 0] 36))from hu2.alloc _);have cA:=aa (aR w2 (UT #[UM US 1,UN tb,UM US 0] 36) w2.1.size rfl);clear hu2;go_wp2_with fail;have bR:(w2.alloc (UT #[UM US 1,UN tb,UM US 0] 36)).1.size=w2.1.size+1:=by simp
     generalize w2.alloc (UT #[UM US 1,UN tb,UM US 0] 36)=W9 at *;have c0:W9.cell? ⟨w2.1.size,0,none⟩=some (UM US 1):=ak cA.out 0;have ja:=ae cA.out;refine(dq.out _ _ ?_ ?_).mono ?_
     ·exact((aX jC.out rfl).ai cy.out).ai ((ac.refl _).alloc _)
     ·rw[<-gm];exact cF _ _ _ _ _ (by rw[<-bR];simp) (by rw[<-bR];simp) (by rw[<-bR,be];simp) (by rw[<-bR];simp)
     clear bR;rintro e w3 ⟨v3,rfl,bN,hu3⟩;obtain⟨A3,c3,rfl,_,_,_⟩:=aT bN;have a6:ac wr w3:=cy.out.trans (ac.trans (uZ) hu3);have bo:=HU.out.trans a6;have hs4:=a6.size;have cL:=aa (HU.out.trans a6);have fa:=aa (aE a6 iU.out);have nf:=aa (aE a6 rF.out);have fi:=aa (dy (base':=w.1.size) bN (by have:=cy.out.size;simp;omega));have hU:∀x,(UO A3 g.length c3).ownBlock=some x->wr.1.size<=x:=λx hx=>by have:=aG bN x hx;have:=cy.out.size;simp at *;omega
     have hb3:=(hu3.below.block w2.1.size (by simp;omega)).trans ((dF _ _ _ ja).trans cA.out);have hc:w3.cell? ⟨w2.1.size,0,none⟩=some (.int .i64 1):=ak hb3 0;have hc1:w3.cell? ⟨w2.1.size,1,none⟩=some (.string tb):=ak hb3 1;have hc2:w3.cell? ⟨w2.1.size,2,none⟩=some (.int .i64 0):=ak hb3 2;haveI:af w2.1.size w3:=af.of (ae hb3);have wE:=aa hU;clear bN hu3 hU hb3 c0 cA;go_wp2_with (at_builtin;refine wpList_append_own _ rfl _ _ 42 rfl w.1.size 3 i0 (.int .i64 0) 1 8 Tryz.underlying42 hi hz0 hz1 hz2 rfl (by decide) (.slice fT cuts.length bB) cuts.length (ew cuts) rfl ?_ _ 1 1 [.int .i64 d] rfl rfl ?_ ?_ (by unfold maxLen;omega) (by omega) ?_ ?_)
     ·exact aE (uZ) fa.out
     ·exact gT _ _ _
     ·intro u hu';simp at hu';subst hu';rfl
     ·have:=cL.out.size;simp;omega
     intro v' w5 eY eX _;rw[<-dj]at eY;have eg:=aa ((cL.out.alloc _).grown eX (λg hg=>aG fa.out g hg));have hA:∀ {W:UY} {v:Value} {n:Nat} {xs:List Value},ac w3 W->W.grownBy w5 (UO fT cuts.length bB).ownBlock->w3.ownsRow w.1.size 36 3 v n xs->w5.ownsRow w.1.size 36 3 v n xs:=λhW h5 hv=>(aE hW hv).kept h5 (cX (aE hW hv) (aE hW fa.out) (by decide))
     have kI:=aa (hA (uZ) eX fi.out);have nE:=aa (hA (uZ) eX nf.out);have eW:=aa eY;clear eX eY hA;go_wp2;exact⟨⟨a+n,a+n,c,g,op,cuts++[d],fuel,congrArg (UM US) (by omega),congrArg (UM US) (by omega),rfl,nw,by omega,kI.out,by simpa using nE.out,by simpa using eW.out,iN.out,by omega,by omega,by simp;omega,by simp;omega,by simp;omega,HS.out,cC.out,eg.out⟩,by simp[intOf];omega⟩
    ·have hst:St.stepT op c 5 t=some (0,op,c):=rfl;have dq:=aa (pT.out 0);have hadd:=HAD.out 0;have fI:=aa (ck.out _ _ _ hst);have cU:=aa (HST.out _ _ _ hst);generalize hg:St.aP f (5,t,0)=g at *;obtain⟨pa,hgt,hgl⟩:=hadd;have iN:=aa pa;clear hg pa hst HAD pT ck HST dK
     by_cases bV:512<g.length
     ·have cC:=aa (fI.out (.inl bV));have z5:((512:Int)<(g.length:Int)):=by omega
      clear fI cU;go_wp2_with fail;refine(fq.out _).mono ?_;rintro e w2 ⟨rfl,hu2⟩;have cy:=aa (show ac wr (w2.alloc (UT #[UM US 5,UN tb,UM US 0] 36))from hu2.alloc _);have cA:=aa (aR w2 (UT #[UM US 5,UN tb,UM US 0] 36) w2.1.size rfl);clear hu2;go_wp2_with fail;have bR:(w2.alloc (UT #[UM US 5,UN tb,UM US 0] 36)).1.size=w2.1.size+1:=by simp
      generalize w2.alloc (UT #[UM US 5,UN tb,UM US 0] 36)=W9 at *;have c0:W9.cell? ⟨w2.1.size,0,none⟩=some (UM US 5):=ak cA.out 0;have ja:=ae cA.out;refine(dq.out _ _ ?_ ?_).mono ?_
      ·exact((aX jC.out rfl).ai cy.out).ai ((ac.refl _).alloc _)
      ·rw[<-gm];exact cF _ _ _ _ _ (by rw[<-bR];simp) (by rw[<-bR];simp) (by rw[<-bR,be];simp) (by rw[<-bR];simp)
      clear bR;rintro e w3 ⟨v3,rfl,bN,hu3⟩;obtain⟨A3,c3,rfl,_,_,_⟩:=aT bN;have a6:ac wr w3:=cy.out.trans (ac.trans (uZ) hu3);have bo:=HU.out.trans a6;clear bN hu3 a6 c0;go_wp2;refine bodyPost_ret (v:=UR #[UO none 0 0,UO none 0 0,UM US a,UM US 3]) (by simp[results,Tryz.results63,go_sem]) rfl ?_;unfold dx;rw[cC.out];exact⟨_,_,rfl,World.ownsRow_nil _ _ _ _,World.ownsRow_nil _ _ _ _,bo⟩
     have z5:¬((512:Int)<(g.length:Int)):=by omega
     by_cases eh:1024<=cuts.length
     ·have cC:=aa (fI.out (.inr eh));have z6:((1024:Int)<=(cuts.length:Int)):=by omega
      clear fI cU;go_wp2_with fail;refine(fq.out _).mono ?_;rintro e w2 ⟨rfl,hu2⟩;have cy:=aa (show ac wr (w2.alloc (UT #[UM US 5,UN tb,UM US 0] 36))from hu2.alloc _);have cA:=aa (aR w2 (UT #[UM US 5,UN tb,UM US 0] 36) w2.1.size rfl);clear hu2;go_wp2_with fail;have bR:(w2.alloc (UT #[UM US 5,UN tb,UM US 0] 36)).1.size=w2.1.size+1:=by simp
      generalize w2.alloc (UT #[UM US 5,UN tb,UM US 0] 36)=W9 at *;have c0:W9.cell? ⟨w2.1.size,0,none⟩=some (UM US 5):=ak cA.out 0;have ja:=ae cA.out;refine(dq.out _ _ ?_ ?_).mono ?_
      ·exact((aX jC.out rfl).ai cy.out).ai ((ac.refl _).alloc _)
      ·rw[<-gm];exact cF _ _ _ _ _ (by rw[<-bR];simp) (by rw[<-bR];simp) (by rw[<-bR,be];simp) (by rw[<-bR];simp)
      clear bR;rintro e w3 ⟨v3,rfl,bN,hu3⟩;obtain⟨A3,c3,rfl,_,_,_⟩:=aT bN;have a6:ac wr w3:=cy.out.trans (ac.trans (uZ) hu3);have bo:=HU.out.trans a6;clear bN hu3 a6 c0;go_wp2;refine bodyPost_ret (v:=UR #[UO none 0 0,UO none 0 0,UM US a,UM US 3]) (by simp[results,Tryz.results63,go_sem]) rfl ?_;unfold dx;rw[cC.out];exact⟨_,_,rfl,World.ownsRow_nil _ _ _ _,World.ownsRow_nil _ _ _ _,bo⟩
     have z6:¬((1024:Int)<=(cuts.length:Int)):=by omega
     have cC:=aa (cU.out (by omega));clear fI cU;go_wp2_with fail;refine(fq.out _).mono ?_;rintro e w2 ⟨rfl,hu2⟩;have cy:=aa (show ac wr (w2.alloc (UT #[UM US 5,UN tb,UM US 0] 36))from hu2.alloc _);have cA:=aa (aR w2 (UT #[UM US 5,UN tb,UM US 0] 36) w2.1.size rfl);clear hu2;go_wp2_with fail;have bR:(w2.alloc (UT #[UM US 5,UN tb,UM US 0] 36)).1.size=w2.1.size+1:=by simp
     generalize w2.alloc (UT #[UM US 5,UN tb,UM US 0] 36)=W9 at *;have c0:W9.cell? ⟨w2.1.size,0,none⟩=some (UM US 5):=ak cA.out 0;have ja:=ae cA.out;refine(dq.out _ _ ?_ ?_).mono ?_
     ·exact((aX jC.out rfl).ai cy.out).ai ((ac.refl _).alloc _)
     ·rw[<-gm];exact cF _ _ _ _ _ (by rw[<-bR];simp) (by rw[<-bR];simp) (by rw[<-bR,be];simp) (by rw[<-bR];simp)
     clear bR;rintro e w3 ⟨v3,rfl,bN,hu3⟩;obtain⟨A3,c3,rfl,_,_,_⟩:=aT bN;have a6:ac wr w3:=cy.out.trans (ac.trans (uZ) hu3);have bo:=HU.out.trans a6;have hs4:=a6.size;have cL:=aa (HU.out.trans a6);have fa:=aa (aE a6 iU.out);have nf:=aa (aE a6 rF.out);have fi:=aa (dy (base':=w.1.size) bN (by have:=cy.out.size;simp;omega));have hU:∀x,(UO A3 g.length c3).ownBlock=some x->wr.1.size<=x:=λx hx=>by have:=aG bN x hx;have:=cy.out.size;simp at *;omega
     have hb3:=(hu3.below.block w2.1.size (by simp;omega)).trans ((dF _ _ _ ja).trans cA.out);have hc:w3.cell? ⟨w2.1.size,0,none⟩=some (.int .i64 5):=ak hb3 0;have hc1:w3.cell? ⟨w2.1.size,1,none⟩=some (.string tb):=ak hb3 1;have hc2:w3.cell? ⟨w2.1.size,2,none⟩=some (.int .i64 0):=ak hb3 2;haveI:af w2.1.size w3:=af.of (ae hb3);have wE:=aa hU;clear bN hu3 hU hb3 c0 cA;go_wp2_with (at_builtin;refine wpList_append_own _ rfl _ _ 42 rfl w.1.size 3 i0 (.int .i64 0) 1 8 Tryz.underlying42 hi hz0 hz1 hz2 rfl (by decide) (.slice fT cuts.length bB) cuts.length (ew cuts) rfl ?_ _ 1 1 [.int .i64 d] rfl rfl ?_ ?_ (by unfold maxLen;omega) (by omega) ?_ ?_)
     ·exact aE (uZ) fa.out
     ·exact gT _ _ _
     ·intro u hu';simp at hu';subst hu';rfl
     ·have:=cL.out.size;simp;omega
     intro v' w5 eY eX _;rw[<-dj]at eY;have eg:=aa ((cL.out.alloc _).grown eX (λg hg=>aG fa.out g hg));have hA:∀ {W:UY} {v:Value} {n:Nat} {xs:List Value},ac w3 W->W.grownBy w5 (UO fT cuts.length bB).ownBlock->w3.ownsRow w.1.size 36 3 v n xs->w5.ownsRow w.1.size 36 3 v n xs:=λhW h5 hv=>(aE hW hv).kept h5 (cX (aE hW hv) (aE hW fa.out) (by decide))
     have kI:=aa (hA (uZ) eX fi.out);have nE:=aa (hA (uZ) eX nf.out);have eW:=aa eY;clear eX eY hA;go_wp2;exact⟨⟨a+n,a+n,c,g,op,cuts++[d],fuel,congrArg (UM US) (by omega),congrArg (UM US) (by omega),rfl,nw,by omega,kI.out,by simpa using nE.out,by simpa using eW.out,iN.out,by omega,by omega,by simp;omega,by simp;omega,by simp;omega,HS.out,cC.out,eg.out⟩,by simp[intOf];omega⟩
    ·have hst:St.stepT op c 2 t=some (((c:Int)+1),op++[(2,t,(c:Int)+1)],c+1):=rfl;have dq:=aa (pT.out ((c:Int)+1));have hadd:=HAD.out ((c:Int)+1);have fI:=aa (ck.out _ _ _ hst);have cU:=aa (HST.out _ _ _ hst);generalize hg:St.aP f (2,t,((c:Int)+1))=g at *;obtain⟨pa,hgt,hgl⟩:=hadd;have iN:=aa pa;clear hg pa hst HAD pT ck HST dK
     by_cases bV:512<g.length
     ·have cC:=aa (fI.out (.inl bV));have z5:((512:Int)<(g.length:Int)):=by omega
      clear fI cU;go_wp2_with fail;refine(fq.out _).mono ?_;rintro e w2 ⟨rfl,hu2⟩;have cy:=aa (show ac wr (w2.alloc (UT #[UM US 2,UN tb,UM US ((c:Int)+1)] 36))from hu2.alloc _);have cA:=aa (aR w2 (UT #[UM US 2,UN tb,UM US ((c:Int)+1)] 36) w2.1.size rfl);clear hu2;go_wp2_with fail;have bR:(w2.alloc (UT #[UM US 2,UN tb,UM US ((c:Int)+1)] 36)).1.size=w2.1.size+1:=by simp
      generalize w2.alloc (UT #[UM US 2,UN tb,UM US ((c:Int)+1)] 36)=W9 at *;have c0:W9.cell? ⟨w2.1.size,0,none⟩=some (UM US 2):=ak cA.out 0;have ja:=ae cA.out;refine(dq.out _ _ ?_ ?_).mono ?_
      ·exact((aX jC.out rfl).ai cy.out).ai ((ac.refl _).alloc _)
      ·rw[<-gm];exact cF _ _ _ _ _ (by rw[<-bR];simp) (by rw[<-bR];simp) (by rw[<-bR,be];simp) (by rw[<-bR];simp)
      clear bR;rintro e w3 ⟨v3,rfl,bN,hu3⟩;obtain⟨A3,c3,rfl,_,_,_⟩:=aT bN;have a6:ac wr w3:=cy.out.trans (ac.trans (uZ) hu3);have bo:=HU.out.trans a6;clear bN hu3 a6 c0;go_wp2;refine bodyPost_ret (v:=UR #[UO none 0 0,UO none 0 0,UM US a,UM US 3]) (by simp[results,Tryz.results63,go_sem]) rfl ?_;unfold dx;rw[cC.out];exact⟨_,_,rfl,World.ownsRow_nil _ _ _ _,World.ownsRow_nil _ _ _ _,bo⟩
     have z5:¬((512:Int)<(g.length:Int)):=by omega
     by_cases eh:1024<=cuts.length
     ·have cC:=aa (fI.out (.inr eh));have z6:((1024:Int)<=(cuts.length:Int)):=by omega
      clear fI cU;go_wp2_with fail;refine(fq.out _).mono ?_;rintro e w2 ⟨rfl,hu2⟩;have cy:=aa (show ac wr (w2.alloc (UT #[UM US 2,UN tb,UM US ((c:Int)+1)] 36))from hu2.alloc _);have cA:=aa (aR w2 (UT #[UM US 2,UN tb,UM US ((c:Int)+1)] 36) w2.1.size rfl);clear hu2;go_wp2_with fail;have bR:(w2.alloc (UT #[UM US 2,UN tb,UM US ((c:Int)+1)] 36)).1.size=w2.1.size+1:=by simp
      generalize w2.alloc (UT #[UM US 2,UN tb,UM US ((c:Int)+1)] 36)=W9 at *;have c0:W9.cell? ⟨w2.1.size,0,none⟩=some (UM US 2):=ak cA.out 0;have ja:=ae cA.out;refine(dq.out _ _ ?_ ?_).mono ?_
      ·exact((aX jC.out rfl).ai cy.out).ai ((ac.refl _).alloc _)
      ·rw[<-gm];exact cF _ _ _ _ _ (by rw[<-bR];simp) (by rw[<-bR];simp) (by rw[<-bR,be];simp) (by rw[<-bR];simp)
      clear bR;rintro e w3 ⟨v3,rfl,bN,hu3⟩;obtain⟨A3,c3,rfl,_,_,_⟩:=aT bN;have a6:ac wr w3:=cy.out.trans (ac.trans (uZ) hu3);have bo:=HU.out.trans a6;clear bN hu3 a6 c0;go_wp2;refine bodyPost_ret (v:=UR #[UO none 0 0,UO none 0 0,UM US a,UM US 3]) (by simp[results,Tryz.results63,go_sem]) rfl ?_;unfold dx;rw[cC.out];exact⟨_,_,rfl,World.ownsRow_nil _ _ _ _,World.ownsRow_nil _ _ _ _,bo⟩
     have z6:¬((1024:Int)<=(cuts.length:Int)):=by omega
     have cC:=aa (cU.out (by omega));clear fI cU;go_wp2_with fail;refine(fq.out _).mono ?_;rintro e w2 ⟨rfl,hu2⟩;have cy:=aa (show ac wr (w2.alloc (UT #[UM US 2,UN tb,UM US ((c:Int)+1)] 36))from hu2.alloc _);have cA:=aa (aR w2 (UT #[UM US 2,UN tb,UM US ((c:Int)+1)] 36) w2.1.size rfl);clear hu2;go_wp2_with fail;have bR:(w2.alloc (UT #[UM US 2,UN tb,UM US ((c:Int)+1)] 36)).1.size=w2.1.size+1:=by simp
     generalize w2.alloc (UT #[UM US 2,UN tb,UM US ((c:Int)+1)] 36)=W9 at *;have c0:W9.cell? ⟨w2.1.size,0,none⟩=some (UM US 2):=ak cA.out 0;have ja:=ae cA.out;refine(dq.out _ _ ?_ ?_).mono ?_
     ·exact((aX jC.out rfl).ai cy.out).ai ((ac.refl _).alloc _)
     ·rw[<-gm];exact cF _ _ _ _ _ (by rw[<-bR];simp) (by rw[<-bR];simp) (by rw[<-bR,be];simp) (by rw[<-bR];simp)
     clear bR;rintro e w3 ⟨v3,rfl,bN,hu3⟩;obtain⟨A3,c3,rfl,_,_,_⟩:=aT bN;have a6:ac wr w3:=cy.out.trans (ac.trans (uZ) hu3);have bo:=HU.out.trans a6;have hs4:=a6.size;have cL:=aa (HU.out.trans a6);have fa:=aa (aE a6 iU.out);have nf:=aa (aE a6 rF.out);have fi:=aa (dy (base':=w.1.size) bN (by have:=cy.out.size;simp;omega));have hU:∀x,(UO A3 g.length c3).ownBlock=some x->wr.1.size<=x:=λx hx=>by have:=aG bN x hx;have:=cy.out.size;simp at *;omega
     have hb3:=(hu3.below.block w2.1.size (by simp;omega)).trans ((dF _ _ _ ja).trans cA.out);have hc:w3.cell? ⟨w2.1.size,0,none⟩=some (.int .i64 2):=ak hb3 0;have hc1:w3.cell? ⟨w2.1.size,1,none⟩=some (.string tb):=ak hb3 1;have hc2:w3.cell? ⟨w2.1.size,2,none⟩=some (.int .i64 ((c:Int)+1)):=ak hb3 2;haveI:af w2.1.size w3:=af.of (ae hb3);have wE:=aa hU;clear bN hu3 hU hb3 c0 cA;go_wp2_with (at_builtin;refine tf rfl _ _ 37 rfl w.1.size 36 j0 (.agg #[.int .i64 0,.string ⟨#[]⟩,.int .i64 0]) 3 32 Tryz.underlying37 ji jz0 jz1 jz2 rfl (by decide) (.slice A9 op.length c9) op.length (av op) rfl ?_ _ 1 1 [.int .i64 2,.string tb,.int .i64 ((c:Int)+1)] rfl rfl ?_ (cN _ _ _) (by unfold maxLen;omega) (by omega) ?_ ?_)
     ·exact nf.out.alloc _
     ·exact eA _ _ _ _ _ _ rfl
     ·have:=cL.out.size;simp;omega
     intro v9 w4 vF vB RI;have Hw:ac w3 (w3.alloc (UT #[UM US 2,UN tb,UM US ((c:Int)+1)] 36)):=uZ
     have Rq:=aa (show w4.ownsRow w.1.size 36 3 v9 (op++[(2,t,(c:Int)+1)]).length (av (op++[(2,t,(c:Int)+1)]))by
      rw[bE,List.length_append,List.length_singleton,<-gm];simp only[be];exact vF)
     have hne:(UO A3 g.length c3).ownBlock=none\/(UO A3 g.length c3).ownBlock≠(UO A9 op.length c9).ownBlock:=by
      cases hb:(UO A3 g.length c3).ownBlock with
      | none=>exact .inl rfl
      | some x=>
       refine .inr λe=>?_
       have:=wE.out x hb
       have:=(rF.out.lt x e.symm).2
       omega
     have Rp:=aa ((aE Hw fi.out).kept vB hne);have En:=aa ((aE Hw fa.out).kept vB (cX (aE Hw fa.out) (aE Hw nf.out) (by decide)));have Nv:=aa ((cL.out.alloc _).grown vB (λg hg=>aG nf.out g hg));obtain⟨T8,c9',rfl,_⟩:=aL vF;clear vB vF RI hne Hw hc hc1 hc2 cL fi fa nf wE;go_wp2_with (at_builtin;refine wpList_append_own _ rfl _ _ 42 rfl w.1.size 3 i0 (.int .i64 0) 1 8 Tryz.underlying42 hi hz0 hz1 hz2 rfl (by decide) (.slice fT cuts.length bB) cuts.length (ew cuts) rfl ?_ _ 1 1 [.int .i64 d] rfl rfl ?_ ?_ (by unfold maxLen;omega) (by omega) ?_ ?_)
     ·exact aE (uZ) En.out
     ·exact gT _ _ _
     ·intro u hu';simp at hu';subst hu';rfl
     ·have:=Nv.out.size;simp;omega
     intro v' w5 eY eX _;rw[<-dj]at eY;have eg:=aa ((Nv.out.alloc _).grown eX (λg hg=>aG En.out g hg));have hA:∀ {W:UY} {v:Value} {n:Nat} {xs:List Value},ac w4 W->W.grownBy w5 (UO fT cuts.length bB).ownBlock->w4.ownsRow w.1.size 36 3 v n xs->w5.ownsRow w.1.size 36 3 v n xs:=λhW h5 hv=>(aE hW hv).kept h5 (cX (aE hW hv) (aE hW En.out) (by decide))
     have kI:=aa (hA (uZ) eX Rp.out);have nE:=aa (hA (uZ) eX Rq.out);have eW:=aa eY;clear eX eY hA;go_wp2;exact⟨⟨a+n,a+n,c+1,g,op++[(2,t,(c:Int)+1)],cuts++[d],fuel,congrArg (UM US) (by omega),congrArg (UM US) (by omega),congrArg (UM US) (by omega),nw,by omega,kI.out,by simpa using nE.out,by simpa using eW.out,iN.out,by omega,by omega,by simp;omega,by simp;omega,by simp;omega,(λo ho=>by rcases List.mem_append.1 ho with ho|ho;exact HS.out o ho;simp at ho;subst ho;show t.length<=_;omega),cC.out,eg.out⟩,by simp[intOf];omega⟩
    ·have hst:St.stepT op c 4 t=some (((c:Int)+1),op,c+1):=rfl;have dq:=aa (pT.out ((c:Int)+1));have hadd:=HAD.out ((c:Int)+1);have fI:=aa (ck.out _ _ _ hst);have cU:=aa (HST.out _ _ _ hst);generalize hg:St.aP f (4,t,((c:Int)+1))=g at *;obtain⟨pa,hgt,hgl⟩:=hadd;have iN:=aa pa;clear hg pa hst HAD pT ck HST dK
     by_cases bV:512<g.length
     ·have cC:=aa (fI.out (.inl bV));have z5:((512:Int)<(g.length:Int)):=by omega
      clear fI cU;go_wp2_with fail;refine(fq.out _).mono ?_;rintro e w2 ⟨rfl,hu2⟩;have cy:=aa (show ac wr (w2.alloc (UT #[UM US 4,UN tb,UM US ((c:Int)+1)] 36))from hu2.alloc _);have cA:=aa (aR w2 (UT #[UM US 4,UN tb,UM US ((c:Int)+1)] 36) w2.1.size rfl);clear hu2;go_wp2_with fail;have bR:(w2.alloc (UT #[UM US 4,UN tb,UM US ((c:Int)+1)] 36)).1.size=w2.1.size+1:=by simp
      generalize w2.alloc (UT #[UM US 4,UN tb,UM US ((c:Int)+1)] 36)=W9 at *;have c0:W9.cell? ⟨w2.1.size,0,none⟩=some (UM US 4):=ak cA.out 0;have ja:=ae cA.out;refine(dq.out _ _ ?_ ?_).mono ?_
      ·exact((aX jC.out rfl).ai cy.out).ai ((ac.refl _).alloc _)
      ·rw[<-gm];exact cF _ _ _ _ _ (by rw[<-bR];simp) (by rw[<-bR];simp) (by rw[<-bR,be];simp) (by rw[<-bR];simp)
      clear bR;rintro e w3 ⟨v3,rfl,bN,hu3⟩;obtain⟨A3,c3,rfl,_,_,_⟩:=aT bN;have a6:ac wr w3:=cy.out.trans (ac.trans (uZ) hu3);have bo:=HU.out.trans a6;clear bN hu3 a6 c0;go_wp2;refine bodyPost_ret (v:=UR #[UO none 0 0,UO none 0 0,UM US a,UM US 3]) (by simp[results,Tryz.results63,go_sem]) rfl ?_;unfold dx;rw[cC.out];exact⟨_,_,rfl,World.ownsRow_nil _ _ _ _,World.ownsRow_nil _ _ _ _,bo⟩
     have z5:¬((512:Int)<(g.length:Int)):=by omega
     by_cases eh:1024<=cuts.length
     ·have cC:=aa (fI.out (.inr eh));have z6:((1024:Int)<=(cuts.length:Int)):=by omega
      clear fI cU;go_wp2_with fail;refine(fq.out _).mono ?_;rintro e w2 ⟨rfl,hu2⟩;have cy:=aa (show ac wr (w2.alloc (UT #[UM US 4,UN tb,UM US ((c:Int)+1)] 36))from hu2.alloc _);have cA:=aa (aR w2 (UT #[UM US 4,UN tb,UM US ((c:Int)+1)] 36) w2.1.size rfl);clear hu2;go_wp2_with fail;have bR:(w2.alloc (UT #[UM US 4,UN tb,UM US ((c:Int)+1)] 36)).1.size=w2.1.size+1:=by simp
      generalize w2.alloc (UT #[UM US 4,UN tb,UM US ((c:Int)+1)] 36)=W9 at *;have c0:W9.cell? ⟨w2.1.size,0,none⟩=some (UM US 4):=ak cA.out 0;have ja:=ae cA.out;refine(dq.out _ _ ?_ ?_).mono ?_
      ·exact((aX jC.out rfl).ai cy.out).ai ((ac.refl _).alloc _)
      ·rw[<-gm];exact cF _ _ _ _ _ (by rw[<-bR];simp) (by rw[<-bR];simp) (by rw[<-bR,be];simp) (by rw[<-bR];simp)
      clear bR;rintro e w3 ⟨v3,rfl,bN,hu3⟩;obtain⟨A3,c3,rfl,_,_,_⟩:=aT bN;have a6:ac wr w3:=cy.out.trans (ac.trans (uZ) hu3);have bo:=HU.out.trans a6;clear bN hu3 a6 c0;go_wp2;refine bodyPost_ret (v:=UR #[UO none 0 0,UO none 0 0,UM US a,UM US 3]) (by simp[results,Tryz.results63,go_sem]) rfl ?_;unfold dx;rw[cC.out];exact⟨_,_,rfl,World.ownsRow_nil _ _ _ _,World.ownsRow_nil _ _ _ _,bo⟩
     have z6:¬((1024:Int)<=(cuts.length:Int)):=by omega
     have cC:=aa (cU.out (by omega));clear fI cU;go_wp2_with fail;refine(fq.out _).mono ?_;rintro e w2 ⟨rfl,hu2⟩;have cy:=aa (show ac wr (w2.alloc (UT #[UM US 4,UN tb,UM US ((c:Int)+1)] 36))from hu2.alloc _);have cA:=aa (aR w2 (UT #[UM US 4,UN tb,UM US ((c:Int)+1)] 36) w2.1.size rfl);clear hu2;go_wp2_with fail;have bR:(w2.alloc (UT #[UM US 4,UN tb,UM US ((c:Int)+1)] 36)).1.size=w2.1.size+1:=by simp
     generalize w2.alloc (UT #[UM US 4,UN tb,UM US ((c:Int)+1)] 36)=W9 at *;have c0:W9.cell? ⟨w2.1.size,0,none⟩=some (UM US 4):=ak cA.out 0;have ja:=ae cA.out;refine(dq.out _ _ ?_ ?_).mono ?_
     ·exact((aX jC.out rfl).ai cy.out).ai ((ac.refl _).alloc _)
     ·rw[<-gm];exact cF _ _ _ _ _ (by rw[<-bR];simp) (by rw[<-bR];simp) (by rw[<-bR,be];simp) (by rw[<-bR];simp)
     clear bR;rintro e w3 ⟨v3,rfl,bN,hu3⟩;obtain⟨A3,c3,rfl,_,_,_⟩:=aT bN;have a6:ac wr w3:=cy.out.trans (ac.trans (uZ) hu3);have bo:=HU.out.trans a6;have hs4:=a6.size;have cL:=aa (HU.out.trans a6);have fa:=aa (aE a6 iU.out);have nf:=aa (aE a6 rF.out);have fi:=aa (dy (base':=w.1.size) bN (by have:=cy.out.size;simp;omega));have hU:∀x,(UO A3 g.length c3).ownBlock=some x->wr.1.size<=x:=λx hx=>by have:=aG bN x hx;have:=cy.out.size;simp at *;omega
     have hb3:=(hu3.below.block w2.1.size (by simp;omega)).trans ((dF _ _ _ ja).trans cA.out);have hc:w3.cell? ⟨w2.1.size,0,none⟩=some (.int .i64 4):=ak hb3 0;have hc1:w3.cell? ⟨w2.1.size,1,none⟩=some (.string tb):=ak hb3 1;have hc2:w3.cell? ⟨w2.1.size,2,none⟩=some (.int .i64 ((c:Int)+1)):=ak hb3 2;haveI:af w2.1.size w3:=af.of (ae hb3);have wE:=aa hU;clear bN hu3 hU hb3 c0 cA;go_wp2_with (at_builtin;refine wpList_append_own _ rfl _ _ 42 rfl w.1.size 3 i0 (.int .i64 0) 1 8 Tryz.underlying42 hi hz0 hz1 hz2 rfl (by decide) (.slice fT cuts.length bB) cuts.length (ew cuts) rfl ?_ _ 1 1 [.int .i64 d] rfl rfl ?_ ?_ (by unfold maxLen;omega) (by omega) ?_ ?_)
     ·exact aE (uZ) fa.out
     ·exact gT _ _ _
     ·intro u hu';simp at hu';subst hu';rfl
     ·have:=cL.out.size;simp;omega
     intro v' w5 eY eX _;rw[<-dj]at eY;have eg:=aa ((cL.out.alloc _).grown eX (λg hg=>aG fa.out g hg));have hA:∀ {W:UY} {v:Value} {n:Nat} {xs:List Value},ac w3 W->W.grownBy w5 (UO fT cuts.length bB).ownBlock->w3.ownsRow w.1.size 36 3 v n xs->w5.ownsRow w.1.size 36 3 v n xs:=λhW h5 hv=>(aE hW hv).kept h5 (cX (aE hW hv) (aE hW fa.out) (by decide))
     have kI:=aa (hA (uZ) eX fi.out);have nE:=aa (hA (uZ) eX nf.out);have eW:=aa eY;clear eX eY hA;go_wp2;exact⟨⟨a+n,a+n,c+1,g,op,cuts++[d],fuel,congrArg (UM US) (by omega),congrArg (UM US) (by omega),congrArg (UM US) (by omega),nw,by omega,kI.out,by simpa using nE.out,by simpa using eW.out,iN.out,by omega,by omega,by simp;omega,by simp;omega,by simp;omega,HS.out,cC.out,eg.out⟩,by simp[intOf];omega⟩
    rcases St.cG op with rfl|⟨o1,o,rfl⟩
    ·have cC:=aa (dK.out rfl);simp only[List.length_nil];clear dK ck HST pT HAD;go_wp2_with fail;refine(fq.out _).mono ?_;rintro e w2 ⟨rfl,hu2⟩;have pM:=aa hu2;clear hu2;go_wp2_with fail
     first|refine aM (by kernel_rfl) (by kernel_rfl) ?_|refine aQ (by kernel_rfl) (by kernel_rfl) ?_
     repeat (go_big_quiet_step (first|(fail)))
     refine wpQuiet_nil ?_;rintro _ ⟨X,rfl⟩;have hu3:ac w (under (w2.alloc (UT #[UM US 3,UN tb,UM US 0] 36)) X):=HU.out.trans (pM.out.trans uZ);clear pM;go_wp2;refine bodyPost_ret (v:=UR #[UO none 0 0,UO none 0 0,UM US a,UM US 7]) (by simp[results,Tryz.results63,go_sem]) rfl ?_;unfold dx;rw[cC.out];exact⟨_,_,rfl,World.ownsRow_nil _ _ _ _,World.ownsRow_nil _ _ _ _,hu3⟩
    obtain⟨m,hm⟩:∃m,o1.length=m:=⟨_,rfl⟩;have hol:(o1++[o]).length=m+1:=by simp[hm]
    have bN:=rF.out;rw[hol]at bN;obtain⟨gb,rfl,kw,hgl',hgc⟩:=fg bN (by omega);have AZ:(o1++[o])[m]?=some o:=by rw[<-hm];simp
    have hcs:=j6 (o1++[o]) m (by rw[hol];omega);have ym:(o1++[o])[m]'(by rw[hol];omega)=o:=Option.some.inj ((List.getElem?_eq_getElem (by rw[hol];omega)).symm.trans AZ);rw[ym]at hcs;have i1:=hgc _ _ hcs.2.1;have i2:=hgc _ _ hcs.2.2;have Ou:o.2.1.length<=4611686018427387904:=by have:=HS.out o (by simp);omega
    obtain⟨ok,ot,oi⟩:=o;simp only at i1 i2 Ou;haveI:af gb wr:=af.of hgl';have z0:¬((m:Int)<0):=by omega
    have z3:(m:Int)<((m+1:Nat):Int):=by omega
    have AW:m<=2000:=by rw[hol]at h3;omega
    obtain⟨TT,hc9b⟩:m+1<=c9/\c9<=maxLen:=by
     obtain⟨_,_,e,ha,hb⟩:=aL bN;simp only[Value.slice.injEq]at e;obtain⟨_,_,rfl⟩:=e;exact⟨ha,hb⟩
    have Gh:=aa hol;have bl:=aa (λW=>kc ot W (by omega));have HM:=aa hm
    have Rr:=aa (show wr.ownsRow w.1.size 36 3 (UO (some ⟨gb,0,none⟩) o1.length c9) o1.length (av o1)by
     have hsh:=tP bN m (by omega);have Fb:(av (o1++[(ok,ot,oi)])).take (m*3)=av o1:=by rw[bE,List.take_left' (by rw[jF,hm])]
     rw[Fb]at hsh
     rw[hm];exact hsh)
    rw[hol]at h3;simp only[hol];clear hcs hgc AZ ym hol bN hm;obtain⟨sb,nx⟩:∃sb:ByteArray,(⟨ot.toArray⟩:ByteArray)=sb:=⟨_,rfl⟩;obtain⟨nb,hnb⟩:∃nb:ByteArray,(⟨(St.nameOf ot).toArray⟩:ByteArray)=nb:=⟨_,rfl⟩;rw[nx,hnb]at bl;rw[nx]at i1;have hnl:nb.1.1=St.nameOf ot:=by rw[<-hnb]
    clear nx hnb;obtain⟨bq,hq⟩:∃bq,(nb.toList != tb.toList)=bq:=⟨_,rfl⟩
    have Fe:St.stepT (o1++[(ok,ot,oi)]) c 3 t=if bq then none else some (oi,o1,c):=by
     unfold St.stepT;simp only[if_true,List.getLast?_append,List.getLast?_singleton,Option.some_or,List.dropLast_concat];cases bq
     ·rw[bne_eq_false_iff_eq,Lib.toList_data,Lib.toList_data,hnl,gm]at hq;rw[if_pos hq];rfl
     rw[bne_iff_ne,Lib.toList_data,Lib.toList_data,hnl,gm]at hq;rw[if_neg hq];rfl
    clear hnl;cases bq;rotate_left 1
    ·have cC:=aa (dK.out Fe);clear Fe dK ck HST pT HAD;have Oz:(nb.toList==tb.toList)=false:=by simpa using hq
     have Hv:(!(nb.toList==tb.toList))=true:=hq;go_wp2_with fail;refine(fq.out _).mono ?_;rintro e w2 ⟨rfl,hu2⟩;have wW:wr.1.size<=w2.1.size:=hu2.size;have l1:w2.cell? ⟨gb,m*3+1,none⟩=some (UN sb):=(hu2.cell (p:=⟨gb,m*3+1,none⟩) hgl').trans i1;haveI:af gb w2:=af.of (Nat.lt_of_lt_of_le hgl' hu2.size);have pM:=aa hu2;clear hu2;go_wp2_with fail;have tW:(decide ((m:Int)<0))=false:=decide_eq_false (by omega)
     first|refine aM (by kernel_rfl) (by kernel_rfl) ?_|refine aQ (by kernel_rfl) (by kernel_rfl) ?_
     repeat (go_big_quiet_step (first|(go_at_call 105;exact Calls.dM (bl.out _))))
     refine wpQuiet_nil ?_;rintro _ ⟨X,rfl⟩;clear tW;have hI:ac (w2.alloc (UT #[UM US 3,UN tb,UM US 0] 36)) (under (w2.alloc (UT #[UM US 3,UN tb,UM US 0] 36)) X):=⟨X,rfl⟩;generalize under (w2.alloc (UT #[UM US 3,UN tb,UM US 0] 36)) X=W at *;have iu:=aa ((pM.out.alloc _).trans hI);have xL:=aa (HU.out.trans iu.out);have gZ:=aa ((hI.below.block w2.1.size (by simp)).trans (aR w2 (UT #[UM US 3,UN tb,UM US 0] 36) w2.1.size rfl));clear hI;go_wp2;refine bodyPost_ret (v:=UR #[UO none 0 0,UO none 0 0,UM US a,UM US 7]) (by simp[results,Tryz.results63,go_sem]) rfl ?_;unfold dx;rw[cC.out];exact⟨_,_,rfl,World.ownsRow_nil _ _ _ _,World.ownsRow_nil _ _ _ _,xL.out⟩
    have hst:St.stepT (o1++[(ok,ot,oi)]) c 3 t=some (oi,o1,c):=Fe;have Oz:(nb.toList==tb.toList)=true:=by simpa using hq
    have Hv:(!(nb.toList==tb.toList))=false:=hq;clear Fe;have dq:=aa (pT.out oi);have hadd:=HAD.out oi;have fI:=aa (ck.out _ _ _ hst);have cU:=aa (HST.out _ _ _ hst);generalize hg:St.aP f (3,t,oi)=g at *;obtain⟨pa,hgt,hgl⟩:=hadd;have iN:=aa pa;clear hg pa hst HAD pT ck HST dK
    by_cases bV:512<g.length
    ·have cC:=aa (fI.out (.inl bV));have z5:((512:Int)<(g.length:Int)):=by omega
     clear fI cU;go_wp2_with fail;refine(fq.out _).mono ?_;rintro e w2 ⟨rfl,hu2⟩;have wW:wr.1.size<=w2.1.size:=hu2.size;have l1:w2.cell? ⟨gb,m*3+1,none⟩=some (UN sb):=(hu2.cell (p:=⟨gb,m*3+1,none⟩) hgl').trans i1;haveI:af gb w2:=af.of (Nat.lt_of_lt_of_le hgl' hu2.size);have pM:=aa hu2;clear hu2;go_wp2_with fail;have tW:(decide ((m:Int)<0))=false:=decide_eq_false (by omega)
     first|refine aM (by kernel_rfl) (by kernel_rfl) ?_|refine aQ (by kernel_rfl) (by kernel_rfl) ?_
     repeat (go_big_quiet_step (first|(go_at_call 105;exact Calls.dM (bl.out _))))
     refine wpQuiet_nil ?_;rintro _ ⟨X,rfl⟩;clear tW;have hI:ac (w2.alloc (UT #[UM US 3,UN tb,UM US 0] 36)) (under (w2.alloc (UT #[UM US 3,UN tb,UM US 0] 36)) X):=⟨X,rfl⟩;generalize under (w2.alloc (UT #[UM US 3,UN tb,UM US 0] 36)) X=W at *;have iu:=aa ((pM.out.alloc _).trans hI);have xL:=aa (HU.out.trans iu.out);have gZ:=aa ((hI.below.block w2.1.size (by simp)).trans (aR w2 (UT #[UM US 3,UN tb,UM US 0] 36) w2.1.size rfl));clear hI;have q2:W.cell? ⟨gb,m*3+2,none⟩=some (UM US oi):=(iu.out.cell (p:=⟨gb,m*3+2,none⟩) hgl').trans i2;have x0:W.cell? ⟨w2.1.size,0,none⟩=some (UM US 3):=ak gZ.out 0;have x1:W.cell? ⟨w2.1.size,1,none⟩=some (UN tb):=ak gZ.out 1;have x2:W.cell? ⟨w2.1.size,2,none⟩=some (UM US 0):=ak gZ.out 2;have LU:W.frozen? ⟨w2.1.size,2,none⟩=false:=bk gZ.out 2;haveI:af w2.1.size W:=af.of (ae gZ.out);haveI:af gb W:=af.of (Nat.lt_of_lt_of_le hgl' iu.out.size);have cy:=aa (iu.out.setCell (p:=⟨w2.1.size,2,none⟩) wW (UM US oi));have cA:=aa (heap_setCell_same _ _ 2 _ _ (UM US oi) gZ.out);go_wp2_with fail;have bR:(W.setCell ⟨w2.1.size,2,none⟩ (UM US oi)).1.size=W.1.size:=by simp
     generalize W.setCell ⟨w2.1.size,2,none⟩ (UM US oi)=W9 at *;have c0:W9.cell? ⟨w2.1.size,0,none⟩=some (UM US 3):=ak cA.out 0;have ja:=ae cA.out;refine(dq.out _ _ ?_ ?_).mono ?_
     ·exact((aX jC.out rfl).ai cy.out).ai ((ac.refl _).alloc _)
     ·rw[<-gm];exact cF _ _ _ _ _ (by rw[<-bR];simp) (by rw[<-bR];simp) (by rw[<-bR,be];simp) (by rw[<-bR];simp)
     clear bR;rintro e w3 ⟨v3,rfl,bN,hu3⟩;obtain⟨A3,c3,rfl,_,_,_⟩:=aT bN;have a6:ac wr w3:=cy.out.trans (ac.trans (uZ) hu3);have bo:=HU.out.trans a6;clear bN hu3 a6 c0;go_wp2;refine bodyPost_ret (v:=UR #[UO none 0 0,UO none 0 0,UM US a,UM US 3]) (by simp[results,Tryz.results63,go_sem]) rfl ?_;unfold dx;rw[cC.out];exact⟨_,_,rfl,World.ownsRow_nil _ _ _ _,World.ownsRow_nil _ _ _ _,bo⟩
    have z5:¬((512:Int)<(g.length:Int)):=by omega
    by_cases eh:1024<=cuts.length
    ·have cC:=aa (fI.out (.inr eh));have z6:((1024:Int)<=(cuts.length:Int)):=by omega
     clear fI cU;go_wp2_with fail;refine(fq.out _).mono ?_;rintro e w2 ⟨rfl,hu2⟩;have wW:wr.1.size<=w2.1.size:=hu2.size;have l1:w2.cell? ⟨gb,m*3+1,none⟩=some (UN sb):=(hu2.cell (p:=⟨gb,m*3+1,none⟩) hgl').trans i1;haveI:af gb w2:=af.of (Nat.lt_of_lt_of_le hgl' hu2.size);have pM:=aa hu2;clear hu2;go_wp2_with fail;have tW:(decide ((m:Int)<0))=false:=decide_eq_false (by omega)
     first|refine aM (by kernel_rfl) (by kernel_rfl) ?_|refine aQ (by kernel_rfl) (by kernel_rfl) ?_
     repeat (go_big_quiet_step (first|(go_at_call 105;exact Calls.dM (bl.out _))))
     refine wpQuiet_nil ?_;rintro _ ⟨X,rfl⟩;clear tW;have hI:ac (w2.alloc (UT #[UM US 3,UN tb,UM US 0] 36)) (under (w2.alloc (UT #[UM US 3,UN tb,UM US 0] 36)) X):=⟨X,rfl⟩;generalize under (w2.alloc (UT #[UM US 3,UN tb,UM US 0] 36)) X=W at *;have iu:=aa ((pM.out.alloc _).trans hI);have xL:=aa (HU.out.trans iu.out);have gZ:=aa ((hI.below.block w2.1.size (by simp)).trans (aR w2 (UT #[UM US 3,UN tb,UM US 0] 36) w2.1.size rfl));clear hI;have q2:W.cell? ⟨gb,m*3+2,none⟩=some (UM US oi):=(iu.out.cell (p:=⟨gb,m*3+2,none⟩) hgl').trans i2;have x0:W.cell? ⟨w2.1.size,0,none⟩=some (UM US 3):=ak gZ.out 0;have x1:W.cell? ⟨w2.1.size,1,none⟩=some (UN tb):=ak gZ.out 1;have x2:W.cell? ⟨w2.1.size,2,none⟩=some (UM US 0):=ak gZ.out 2;have LU:W.frozen? ⟨w2.1.size,2,none⟩=false:=bk gZ.out 2;haveI:af w2.1.size W:=af.of (ae gZ.out);haveI:af gb W:=af.of (Nat.lt_of_lt_of_le hgl' iu.out.size);have cy:=aa (iu.out.setCell (p:=⟨w2.1.size,2,none⟩) wW (UM US oi));have cA:=aa (heap_setCell_same _ _ 2 _ _ (UM US oi) gZ.out);go_wp2_with fail;have bR:(W.setCell ⟨w2.1.size,2,none⟩ (UM US oi)).1.size=W.1.size:=by simp
     generalize W.setCell ⟨w2.1.size,2,none⟩ (UM US oi)=W9 at *;have c0:W9.cell? ⟨w2.1.size,0,none⟩=some (UM US 3):=ak cA.out 0;have ja:=ae cA.out;refine(dq.out _ _ ?_ ?_).mono ?_
     ·exact((aX jC.out rfl).ai cy.out).ai ((ac.refl _).alloc _)
     ·rw[<-gm];exact cF _ _ _ _ _ (by rw[<-bR];simp) (by rw[<-bR];simp) (by rw[<-bR,be];simp) (by rw[<-bR];simp)
     clear bR;rintro e w3 ⟨v3,rfl,bN,hu3⟩;obtain⟨A3,c3,rfl,_,_,_⟩:=aT bN;have a6:ac wr w3:=cy.out.trans (ac.trans (uZ) hu3);have bo:=HU.out.trans a6;clear bN hu3 a6 c0;go_wp2;refine bodyPost_ret (v:=UR #[UO none 0 0,UO none 0 0,UM US a,UM US 3]) (by simp[results,Tryz.results63,go_sem]) rfl ?_;unfold dx;rw[cC.out];exact⟨_,_,rfl,World.ownsRow_nil _ _ _ _,World.ownsRow_nil _ _ _ _,bo⟩
    have z6:¬((1024:Int)<=(cuts.length:Int)):=by omega
    have cC:=aa (cU.out (by omega));clear fI cU;go_wp2_with fail;refine(fq.out _).mono ?_;rintro e w2 ⟨rfl,hu2⟩;have wW:wr.1.size<=w2.1.size:=hu2.size;have l1:w2.cell? ⟨gb,m*3+1,none⟩=some (UN sb):=(hu2.cell (p:=⟨gb,m*3+1,none⟩) hgl').trans i1;haveI:af gb w2:=af.of (Nat.lt_of_lt_of_le hgl' hu2.size);have pM:=aa hu2;clear hu2;go_wp2_with fail;have tW:(decide ((m:Int)<0))=false:=decide_eq_false (by omega)
    first|refine aM (by kernel_rfl) (by kernel_rfl) ?_|refine aQ (by kernel_rfl) (by kernel_rfl) ?_
    repeat (go_big_quiet_step (first|(go_at_call 105;exact Calls.dM (bl.out _))))
    refine wpQuiet_nil ?_;rintro _ ⟨X,rfl⟩;clear tW;have hI:ac (w2.alloc (UT #[UM US 3,UN tb,UM US 0] 36)) (under (w2.alloc (UT #[UM US 3,UN tb,UM US 0] 36)) X):=⟨X,rfl⟩;generalize under (w2.alloc (UT #[UM US 3,UN tb,UM US 0] 36)) X=W at *;have iu:=aa ((pM.out.alloc _).trans hI);have xL:=aa (HU.out.trans iu.out);have gZ:=aa ((hI.below.block w2.1.size (by simp)).trans (aR w2 (UT #[UM US 3,UN tb,UM US 0] 36) w2.1.size rfl));clear hI;have q2:W.cell? ⟨gb,m*3+2,none⟩=some (UM US oi):=(iu.out.cell (p:=⟨gb,m*3+2,none⟩) hgl').trans i2;have x0:W.cell? ⟨w2.1.size,0,none⟩=some (UM US 3):=ak gZ.out 0;have x1:W.cell? ⟨w2.1.size,1,none⟩=some (UN tb):=ak gZ.out 1;have x2:W.cell? ⟨w2.1.size,2,none⟩=some (UM US 0):=ak gZ.out 2;have LU:W.frozen? ⟨w2.1.size,2,none⟩=false:=bk gZ.out 2;haveI:af w2.1.size W:=af.of (ae gZ.out);haveI:af gb W:=af.of (Nat.lt_of_lt_of_le hgl' iu.out.size);have cy:=aa (iu.out.setCell (p:=⟨w2.1.size,2,none⟩) wW (UM US oi));have cA:=aa (heap_setCell_same _ _ 2 _ _ (UM US oi) gZ.out);go_wp2_with fail;have bR:(W.setCell ⟨w2.1.size,2,none⟩ (UM US oi)).1.size=W.1.size:=by simp
    generalize W.setCell ⟨w2.1.size,2,none⟩ (UM US oi)=W9 at *;have c0:W9.cell? ⟨w2.1.size,0,none⟩=some (UM US 3):=ak cA.out 0;have ja:=ae cA.out;refine(dq.out _ _ ?_ ?_).mono ?_
    ·exact((aX jC.out rfl).ai cy.out).ai ((ac.refl _).alloc _)
    ·rw[<-gm];exact cF _ _ _ _ _ (by rw[<-bR];simp) (by rw[<-bR];simp) (by rw[<-bR,be];simp) (by rw[<-bR];simp)
    clear bR;rintro e w3 ⟨v3,rfl,bN,hu3⟩;obtain⟨A3,c3,rfl,_,_,_⟩:=aT bN;have a6:ac wr w3:=cy.out.trans (ac.trans (uZ) hu3);have bo:=HU.out.trans a6;have hs4:=a6.size;have cL:=aa (HU.out.trans a6);have fa:=aa (aE a6 iU.out);have nf:=aa (aE a6 Rr.out);have fi:=aa (dy (base':=w.1.size) bN (by have:=cy.out.size;simp;omega));have hU:∀x,(UO A3 g.length c3).ownBlock=some x->wr.1.size<=x:=λx hx=>by have:=aG bN x hx;have:=cy.out.size;simp at *;omega
    have hb3:=(hu3.below.block w2.1.size (by simp;omega)).trans ((dF _ _ _ ja).trans cA.out);have hc:w3.cell? ⟨w2.1.size,0,none⟩=some (.int .i64 3):=ak hb3 0;have hc1:w3.cell? ⟨w2.1.size,1,none⟩=some (.string tb):=ak hb3 1;have hc2:w3.cell? ⟨w2.1.size,2,none⟩=some (.int .i64 oi):=ak hb3 2;haveI:af w2.1.size w3:=af.of (ae hb3);have wE:=aa hU;clear bN hu3 hU hb3 c0 cA;go_wp2_with (at_builtin;refine wpList_append_own _ rfl _ _ 42 rfl w.1.size 3 i0 (.int .i64 0) 1 8 Tryz.underlying42 hi hz0 hz1 hz2 rfl (by decide) (.slice fT cuts.length bB) cuts.length (ew cuts) rfl ?_ _ 1 1 [.int .i64 d] rfl rfl ?_ ?_ (by unfold maxLen;omega) (by omega) ?_ ?_)
    ·exact aE (uZ) fa.out
    ·exact gT _ _ _
    ·intro u hu';simp at hu';subst hu';rfl
    ·have:=cL.out.size;simp;omega
    intro v' w5 eY eX _;rw[<-dj]at eY;have eg:=aa ((cL.out.alloc _).grown eX (λg hg=>aG fa.out g hg));have hA:∀ {W:UY} {v:Value} {n:Nat} {xs:List Value},ac w3 W->W.grownBy w5 (UO fT cuts.length bB).ownBlock->w3.ownsRow w.1.size 36 3 v n xs->w5.ownsRow w.1.size 36 3 v n xs:=λhW h5 hv=>(aE hW hv).kept h5 (cX (aE hW hv) (aE hW fa.out) (by decide))
    have kI:=aa (hA (uZ) eX fi.out);have nE:=aa (hA (uZ) eX nf.out);have eW:=aa eY;clear eX eY hA;go_wp2;have hm':=HM.out;subst hm';exact⟨⟨a+n,a+n,c,g,o1,cuts++[d],fuel,congrArg (UM US) (by omega),congrArg (UM US) (by omega),rfl,nw,by omega,kI.out,by simpa using nE.out,by simpa using eW.out,iN.out,by omega,by omega,by simp;omega,by simp;omega,by simp;omega,(λo ho=>HS.out o (by simp[ho])),cC.out,eg.out⟩,by simp[intOf];omega⟩
  have vy:a=raw.size:=by omega
  subst vy;have hnil:raw.1.1.drop raw.size=[]:=List.drop_of_length_le (by simp);have hd2:=HD.out;rw[hnil,St.fX]at hd2;unfold St.gD at hd2;have cC:=aa hd2;obtain⟨A9,c9,rfl,_,_,hA9⟩:=aT hO9;obtain⟨fT,bB,rfl,_,_,hA10⟩:=aT hO10;have kr:=HU.out.size;clear hlt hD HD hu hnil hd2 hO8 hO9 hO10
  by_cases hop:op=[]
  rotate_left 1
  ·have z1:(0:Int)<(op.length:Int):=by have:=List.length_pos_iff.2 hop;omega
   have u3:=aa (show St.dl E raw.size raw.1.1 0 0 [] [] [] 0=([],[],raw.size,7)by rw[cC.out,if_neg hop]);clear hop;go_wp2;refine bodyPost_ret (v:=UR #[UO none 0 0,UO none 0 0,UM US raw.size,UM US 7]) (by simp[results,Tryz.results63,go_sem]) rfl ?_;unfold dx;rw[u3.out];exact⟨_,_,rfl,World.ownsRow_nil _ _ _ _,World.ownsRow_nil _ _ _ _,HU.out⟩
  subst hop;have u3:=aa (show St.dl E raw.size raw.1.1 0 0 [] [] [] 0=(f,cuts++[d],0,0)by rw[cC.out,if_pos rfl]);simp only[List.length_nil];go_wp2_with (at_builtin;refine wpList_append_own _ rfl _ _ 42 rfl w.1.size 3 i0 (.int .i64 0) 1 8 Tryz.underlying42 hi hz0 hz1 hz2 rfl (by decide) (.slice fT cuts.length bB) cuts.length (ew cuts) rfl ?_ _ 1 1 [.int .i64 d] rfl rfl ?_ ?_ (by unfold maxLen;omega) (by omega) ?_ ?_)
  any_goals (first|exact aE (uZ) iU.out|exact gT _ _ _|(intro u hu';simp at hu';subst hu';rfl)|rfl|omega|(simp;omega))
  intro v' w5 eY eX _;rw[<-dj]at eY;have eg:=aa ((HU.out.alloc _).grown eX (λg hg=>aG iU.out g hg));have hA:∀ {W:UY} {v:Value},ac wr W->W.grownBy w5 (UO fT cuts.length bB).ownBlock->wr.ownsRow w.1.size 36 3 v f.length (av f)->w5.ownsRow w.1.size 36 3 v f.length (av f):=λhW h5 hv=>(aE hW hv).kept h5 (cX (aE hW hv) (aE hW iU.out) (by decide))
  have kI:=aa (hA (uZ) eX jC.out);have eW:=aa eY;clear eX eY hA;go_wp2;refine bodyPost_ret (v:=UR #[_,v',UM US 0,UM US 0]) (by simp[results,Tryz.results63,go_sem];rfl) rfl ?_;unfold dx;rw[u3.out];exact⟨_,_,rfl,kI.out,by simpa using eW.out,eg.out⟩
