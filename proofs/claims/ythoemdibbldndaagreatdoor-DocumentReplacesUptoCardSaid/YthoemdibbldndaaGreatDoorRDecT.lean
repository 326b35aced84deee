/- The contract of the reference's Decode: what it gives is St.decT of the format's element. -/
import Derived.Test.YthoemdibbldndaaGreatDoorGH
import Derived.Test.YthoemdibbldndaaGreatDoorGD
import Derived.Test.YthoemdibbldndaaGreatDoorRefCheck
set_option linter.all false
set_option maxHeartbeats 0
set_option maxRecDepth 20000
open Go.Value renaming int->VD,string->VE,slice->VF,tuple->VI
open Go.IntKind renaming i64->VJ
open Go.Obj renaming cells->VK
open Go renaming World->VO
namespace Go.Proofs.YthoemdibbldndaaGreatDoor
open Go.RowKit
def Kl(E:List UInt8->St.El):Prop:=∀l k t n,E l=some (k,t,n)->(k=0\/k=1\/k=2\/k=3\/k=4\/k=5)/\1<=n/\n<=l.length/\t.length<=n
def Ll(op:List St.It)(n:Nat):Prop:=∀o∈op,o.2.1.length<=n
def Pj(w:VO)(E:List UInt8->St.El)(au:ByteArray)(s8 s9 cW ga s12 lD:Value)(wr:VO):Prop:=
 ∃(a d c:Nat) (f op:List St.It) (cuts:List Nat) (fuel:Nat),ga=VD VJ a/\s12=VD VJ d/\lD=VD VJ c/\a<=au.size/\au.size-a<=fuel /\
  wr.ownsRow w.1.size 36 3 s8 f.length (av f)/\wr.ownsRow w.1.size 36 3 s9 op.length (av op)/\wr.ownsRow w.1.size 3 1 cW cuts.length (eJ cuts)/\St.Nm f/\aP f<=a/\f.length<=512/\cuts.length<=1024 /\
  op.length<=cuts.length/\c<=cuts.length/\Ll op au.size /\
  St.dv E au.size au.1.1 0 0 [] [] [] 0=St.dv E fuel (au.1.1.drop a) a d f cuts op c/\ac w wr
theorem sE(fmt:Int)(E:List UInt8->St.El)(hE:zA fmt E)(hok:Kl E)(au:ByteArray)(w:VO)(hr:au.size<=4611686018427387904) :
  Calls Tryz.prog 63 #[VD VJ fmt,VE au] w (dB (St.dv E au.size au.1.1 0 0 [] [] [] 0) w):=by
 obtain⟨i0,hi,hz0,hz1,hz2⟩:=info_parts fJ;obtain⟨j0,ji,jz0,jz1,jz2⟩:=info_parts dA;go_enter Tryz.func63,Tryz.ntmps63;go_wp2;go_loopw [8,9,10,11,12,13] (λs8 s9 cW ga s12 lD wr=>Pj w E au s8 s9 cW ga s12 lD wr) (λ_ _ _ ga _ _ _=>au.size+1-(intOf ga).toNat)
 case atStart=>exact⟨0,0,0,[],[],[],au.size,rfl,rfl,rfl,by omega,by omega,World.ownsRow_nil _ _ _ _,World.ownsRow_nil _ _ _ _,World.ownsRow_nil _ _ _ _,St.sy,by simp[aP],by simp,by simp,by simp,by simp,(λo ho=>by cases ho),by simp,ac.refl _⟩
 case round=>
  obtain⟨a,d,c,f,op,cuts,fuel,rfl,rfl,rfl,ha,hfu,hO8,hO9,hO10,hN,ht,h1,h2,h3,h4,hS,hD,hu⟩:=hrel;have HD:=aa hD;have HU:=aa hu;have gK:=aa hO8;have nH:=aa hO9;have iQ:=aa hO10;have HS:=aa hS;have hsz:=hu.size;have HN:=aa hN;clear hN hS
  by_cases hlt:a<au.size
  ·have h0:=CW hlt;obtain⟨fuel,rfl⟩:∃m,fuel=m+1:=⟨fuel-1,by omega⟩;obtain⟨x,hx⟩:∃x,au.extract a au.size=x:=⟨_,rfl⟩;have hxl:x.1.1=au.1.1.drop a:=by rw[<-hx,Lib.extract_data,List.take_of_length_le (by simp)]
   have hxs:x.size=au.size-a:=by rw[<-hx];simp
   have hel:=λW=>hE x W (by omega) (by omega)
   rw[hxl]at hel;have jk:=aa hel;have y1:(a:Int)<=(au.size:Int):=by omega
   have y2:(a:Int)<(au.size:Int):=by omega
   clear hel hD hu hE;cases hs:E (au.1.1.drop a)with
   | none=>
    have hd2:=aa (HD.out.trans (St.mC fuel a d _ cuts h0 hs));have fu:Hid (∀W,Calls Tryz.prog 104 #[VD VJ fmt,VE x] W λe w'=>e=.returned (VI #[.agg #[VD VJ 0,VE ⟨#[]⟩,VD VJ 0],VD VJ 0])/\ac W w'):=aa (by have:=jk.out;rw[hs]at this;exact this);clear hs h0 HD jk hxl hO8 hO9 hO10;go_wp2_with (go_at_call 104;refine(fu.out _).mono ?_;rintro e w2 ⟨rfl,hu2⟩);have hu3:=HU.out.trans hu2;refine bodyPost_ret (v:=VI #[VF none 0 0,VF none 0 0,VD VJ a,VD VJ 2]) (by simp[results,Tryz.results63,go_sem]) rfl ?_;unfold dB;rw[hd2.out];exact⟨_,_,rfl,World.ownsRow_nil _ _ _ _,World.ownsRow_nil _ _ _ _,uZ⟩
   | some q=>
    obtain⟨k,t,n⟩:=q;obtain⟨hk,fZ,eV,htn⟩:=hok _ _ _ _ hs;have mW:a+n<=au.size:=by simp at eV;omega
    have d0:((n:Int)==0)=false:=by simp;omega
    have iX:(au.1.1.drop a).drop n=au.1.1.drop (a+n):=by rw[List.drop_drop]
    have fu:Hid (∀W,Calls Tryz.prog 104 #[VD VJ fmt,VE x] W λe w'=>e=.returned (VI #[.agg #[VD VJ k,VE ⟨t.toArray⟩,VD VJ 0],VD VJ n])/\ac W w'):=aa (by have:=jk.out;rw[hs]at this;exact this);obtain⟨A8,c8,rfl,_,_,hA8⟩:=aJ hO8;obtain⟨A9,c9,rfl,_,_,hA9⟩:=aJ hO9;obtain⟨fK,bl,rfl,_,_,hA10⟩:=aJ hO10;obtain⟨tb,fl⟩:∃tb:ByteArray,(⟨t.toArray⟩:ByteArray)=tb:=⟨_,rfl⟩;have gj:tb.1.1=t:=by rw[<-fl]
    rw[fl]at fu
    have iC:∀(i:Int) (W:VO) (b:Nat),aE W A8 f->aE W (some ⟨b,0,none⟩) [(k,t,i)]->Calls Tryz.prog 44 #[VF A8 f.length c8,VF (some ⟨b,0,none⟩) 1 1] W λe w'=>∃v,e=.returned v/\w'.ownsRow W.1.size 36 3 v (St.aV f (k,t,i)).length (av (St.aV f (k,t,i)))/\ac W w':=by
     intro i W b h h';have htx:aP (f++[(k,t,i)])<=a+n:=by rw[ci];simp only;omega
     have:=gU A8 f.length c8 f (some ⟨b,0,none⟩) 1 1 [(k,t,i)] W rfl rfl (λe=>by have:=hA8 e;omega) (λe=>by cases e) h h' (by omega) (by omega)
     rw[show St.bu (f++[(k,t,i)])=St.aV f (k,t,i)by rw[St.ew,HN.out]]at this;exact this
    have hadd:∀i:Int,St.Nm (St.aV f (k,t,i))/\aP (St.aV f (k,t,i))<=a+n/\(St.aV f (k,t,i)).length<=f.length+1:=λi=>⟨St.gC HN.out _,by have:=gQ f (k,t,i);simp only at this;omega,(St.ic f (k,t,i)).1⟩
    have pB:=aa iC;have HAD:=aa hadd;clear iC hadd hA8 hA9 hA10
    by_cases gV:k=0
    ·subst gV;have hd2:=HD.out.trans (St.rY fuel a d _ cuts h0 hs);rw[iX]at hd2;have bJ:=aa hd2;clear hs h0 HD jk hxl hO8 hO9 hO10 hd2 iX eV fl gj pB HAD;go_wp2_with (go_at_call 104;refine(fu.out _).mono ?_;rintro e w2 ⟨rfl,hu2⟩);have hu3:=HU.out.trans hu2;exact⟨⟨a+n,d,c,f,op,cuts,fuel,congrArg (VD VJ) (by omega),rfl,rfl,mW,by omega,aA (uZ) gK.out,aA (uZ) nH.out,aA (uZ) iQ.out,HN.out,by omega,h1,h2,h3,h4,HS.out,bJ.out,uZ⟩,by simp[intOf];omega⟩
    have dR:=aa (λ(h:St.stepT op c k t=none)=>HD.out.trans (St.qt fuel a d f cuts h0 hs gV h));have ck:=aa (λ(i:Int) (eG:List St.It) (c':Nat) (h:St.stepT op c k t=some (i,eG,c')) hf=>HD.out.trans (St.mB fuel a d f cuts h0 hs gV h hf))
    have HST:Hid (∀(i:Int) (eG:List St.It) (c':Nat),St.stepT op c k t=some (i,eG,c')->¬(512<(St.aV f (k,t,i)).length\/1024<=cuts.length)->St.dv E au.size au.1.1 0 0 [] [] [] 0=St.dv E fuel (au.1.1.drop (a+n)) (a+n) (a+n) (St.aV f (k,t,i)) (cuts++[d]) eG c'):=aa (λi eG c' h hf=>by
     have:=HD.out.trans (St.mD fuel a d f cuts h0 hs gV h hf)
     rwa [iX]at this)
    clear hs h0 HD jk hxl hO8 hO9 hO10 iX eV;have hk':k=1\/k=5\/k=2\/k=4\/k=3:=by omega
    clear hk;rcases hk' with rfl|rfl|rfl|rfl|rfl
    ·have hst:St.stepT op c 1 t=some (0,op,c):=rfl;have cJ:=aa (pB.out 0);have hadd:=HAD.out 0;have gR:=aa (ck.out _ _ _ hst);have cS:=aa (HST.out _ _ _ hst);generalize hg:St.aV f (1,t,0)=g at *;obtain⟨n9,hgt,hgl⟩:=hadd;have iM:=aa n9;clear hg n9 hst HAD pB ck HST dR
     by_cases bR:512<g.length
     ·have bJ:=aa (gR.out (.inl bR));have z5:((512:Int)<(g.length:Int)):=by omega
      clear gR cS;go_wp2_with fail;refine(fu.out _).mono ?_;rintro e w2 ⟨rfl,hu2⟩;have cM:=aa (show ac wr (w2.alloc (VK #[VD VJ 1,VE tb,VD VJ 0] 36))from hu2.alloc _);have cy:=aa (aO w2 (VK #[VD VJ 1,VE tb,VD VJ 0] 36) w2.1.size rfl);clear hu2;go_wp2_with fail;have bU:(w2.alloc (VK #[VD VJ 1,VE tb,VD VJ 0] 36)).1.size=w2.1.size+1:=by simp
      generalize w2.alloc (VK #[VD VJ 1,VE tb,VD VJ 0] 36)=W9 at *;have c0:W9.cell? ⟨w2.1.size,0,none⟩=some (VD VJ 1):=ai cy.out 0;have iT:=ae cy.out;refine(cJ.out _ _ ?_ ?_).mono ?_
      ·exact((aM gK.out rfl).ah cM.out).ah ((ac.refl _).alloc _)
      ·rw[<-gj];exact bY _ _ _ _ _ (by rw[<-bU];simp) (by rw[<-bU];simp) (by rw[<-bU,aX];simp) (by rw[<-bU];simp)
      clear bU;rintro e w3 ⟨v3,rfl,bB,hu3⟩;obtain⟨A3,c3,rfl,_,_,_⟩:=aJ bB;have aU:ac wr w3:=cM.out.trans (ac.trans (uZ) hu3);have a8:=HU.out.trans aU;clear bB hu3 aU c0;go_wp2;refine bodyPost_ret (v:=VI #[VF none 0 0,VF none 0 0,VD VJ a,VD VJ 3]) (by simp[results,Tryz.results63,go_sem]) rfl ?_;unfold dB;rw[bJ.out];exact⟨_,_,rfl,World.ownsRow_nil _ _ _ _,World.ownsRow_nil _ _ _ _,a8⟩
     have z5:¬((512:Int)<(g.length:Int)):=by omega
     by_cases eB:1024<=cuts.length
     ·have bJ:=aa (gR.out (.inr eB));have z6:((1024:Int)<=(cuts.length:Int)):=by omega
      clear gR cS;go_wp2_with fail;refine(fu.out _).mono ?_;rintro e w2 ⟨rfl,hu2⟩;have cM:=aa (show ac wr (w2.alloc (VK #[VD VJ 1,VE tb,VD VJ 0] 36))from hu2.alloc _);have cy:=aa (aO w2 (VK #[VD VJ 1,VE tb,VD VJ 0] 36) w2.1.size rfl);clear hu2;go_wp2_with fail;have bU:(w2.alloc (VK #[VD VJ 1,VE tb,VD VJ 0] 36)).1.size=w2.1.size+1:=by simp
      generalize w2.alloc (VK #[VD VJ 1,VE tb,VD VJ 0] 36)=W9 at *;have c0:W9.cell? ⟨w2.1.size,0,none⟩=some (VD VJ 1):=ai cy.out 0;have iT:=ae cy.out;refine(cJ.out _ _ ?_ ?_).mono ?_
      ·exact((aM gK.out rfl).ah cM.out).ah ((ac.refl _).alloc _)
      ·rw[<-gj];exact bY _ _ _ _ _ (by rw[<-bU];simp) (by rw[<-bU];simp) (by rw[<-bU,aX];simp) (by rw[<-bU];simp)
      clear bU;rintro e w3 ⟨v3,rfl,bB,hu3⟩;obtain⟨A3,c3,rfl,_,_,_⟩:=aJ bB;have aU:ac wr w3:=cM.out.trans (ac.trans (uZ) hu3);have a8:=HU.out.trans aU;clear bB hu3 aU c0;go_wp2;refine bodyPost_ret (v:=VI #[VF none 0 0,VF none 0 0,VD VJ a,VD VJ 3]) (by simp[results,Tryz.results63,go_sem]) rfl ?_;unfold dB;rw[bJ.out];exact⟨_,_,rfl,World.ownsRow_nil _ _ _ _,World.ownsRow_nil _ _ _ _,a8⟩
     have z6:¬((1024:Int)<=(cuts.length:Int)):=by omega
     have bJ:=aa (cS.out (by omega));clear gR cS;go_wp2_with fail;refine(fu.out _).mono ?_;rintro e w2 ⟨rfl,hu2⟩;have cM:=aa (show ac wr (w2.alloc (VK #[VD VJ 1,VE tb,VD VJ 0] 36))from hu2.alloc _);have cy:=aa (aO w2 (VK #[VD VJ 1,VE tb,VD VJ 0] 36) w2.1.size rfl);clear hu2;go_wp2_with fail;have bU:(w2.alloc (VK #[VD VJ 1,VE tb,VD VJ 0] 36)).1.size=w2.1.size+1:=by simp
     generalize w2.alloc (VK #[VD VJ 1,VE tb,VD VJ 0] 36)=W9 at *;have c0:W9.cell? ⟨w2.1.size,0,none⟩=some (VD VJ 1):=ai cy.out 0;have iT:=ae cy.out;refine(cJ.out _ _ ?_ ?_).mono ?_
     ·exact((aM gK.out rfl).ah cM.out).ah ((ac.refl _).alloc _)
     ·rw[<-gj];exact bY _ _ _ _ _ (by rw[<-bU];simp) (by rw[<-bU];simp) (by rw[<-bU,aX];simp) (by rw[<-bU];simp)
     clear bU;rintro e w3 ⟨v3,rfl,bB,hu3⟩;obtain⟨A3,c3,rfl,_,_,_⟩:=aJ bB;have aU:ac wr w3:=cM.out.trans (ac.trans (uZ) hu3);have a8:=HU.out.trans aU;have hs4:=aU.size;have cL:=aa (HU.out.trans aU);have fg:=aa (aA aU iQ.out);have mK:=aa (aA aU nH.out);have eS:=aa (cC (base':=w.1.size) bB (by have:=cM.out.size;simp;omega));have ij:∀x,(VF A3 g.length c3).ownBlock=some x->wr.1.size<=x:=λx hx=>by have:=ax bB x hx;have:=cM.out.size;simp at *;omega
     have hb3:=(hu3.below.block w2.1.size (by simp;omega)).trans ((dG _ _ _ iT).trans cy.out);have hc:w3.cell? ⟨w2.1.size,0,none⟩=some (.int .i64 1):=ai hb3 0;have hc1:w3.cell? ⟨w2.1.size,1,none⟩=some (.string tb):=ai hb3 1;have hc2:w3.cell? ⟨w2.1.size,2,none⟩=some (.int .i64 0):=ai hb3 2;haveI:af w2.1.size w3:=af.of (ae hb3);have wu:=aa ij;clear bB hu3 ij hb3 c0 cy;go_wp2_with (at_builtin;refine wpList_append_own _ rfl _ _ 42 rfl w.1.size 3 i0 (.int .i64 0) 1 8 Tryz.underlying42 hi hz0 hz1 hz2 rfl (by decide) (.slice fK cuts.length bl) cuts.length (eJ cuts) rfl ?_ _ 1 1 [.int .i64 d] rfl rfl ?_ ?_ (by unfold maxLen;omega) (by omega) ?_ ?_)
     ·exact aA (uZ) fg.out
     ·exact fF _ _ _
     ·intro u hu';simp at hu';subst hu';rfl
     ·have:=cL.out.size;simp;omega
     intro v' w5 dy eh _;rw[<-dl]at dy;have dO:=aa ((cL.out.alloc _).grown eh (λg hg=>ax fg.out g hg));have hA:∀ {W:VO} {v:Value} {n:Nat} {xs:List Value},ac w3 W->W.grownBy w5 (VF fK cuts.length bl).ownBlock->w3.ownsRow w.1.size 36 3 v n xs->w5.ownsRow w.1.size 36 3 v n xs:=λhW h5 hv=>(aA hW hv).kept h5 (cR (aA hW hv) (aA hW fg.out) (by decide))
     have kv:=aa (hA (uZ) eh eS.out);have ng:=aa (hA (uZ) eh mK.out);have eI:=aa dy;clear eh dy hA;go_wp2;exact⟨⟨a+n,a+n,c,g,op,cuts++[d],fuel,congrArg (VD VJ) (by omega),congrArg (VD VJ) (by omega),rfl,mW,by omega,kv.out,by simpa using ng.out,by simpa using eI.out,iM.out,by omega,by omega,by simp;omega,by simp;omega,by simp;omega,HS.out,bJ.out,dO.out⟩,by simp[intOf];omega⟩
    ·have hst:St.stepT op c 5 t=some (0,op,c):=rfl;have cJ:=aa (pB.out 0);have hadd:=HAD.out 0;have gR:=aa (ck.out _ _ _ hst);have cS:=aa (HST.out _ _ _ hst);generalize hg:St.aV f (5,t,0)=g at *;obtain⟨n9,hgt,hgl⟩:=hadd;have iM:=aa n9;clear hg n9 hst HAD pB ck HST dR
     by_cases bR:512<g.length
     ·have bJ:=aa (gR.out (.inl bR));have z5:((512:Int)<(g.length:Int)):=by omega
      clear gR cS;go_wp2_with fail;refine(fu.out _).mono ?_;rintro e w2 ⟨rfl,hu2⟩;have cM:=aa (show ac wr (w2.alloc (VK #[VD VJ 5,VE tb,VD VJ 0] 36))from hu2.alloc _);have cy:=aa (aO w2 (VK #[VD VJ 5,VE tb,VD VJ 0] 36) w2.1.size rfl);clear hu2;go_wp2_with fail;have bU:(w2.alloc (VK #[VD VJ 5,VE tb,VD VJ 0] 36)).1.size=w2.1.size+1:=by simp
      generalize w2.alloc (VK #[VD VJ 5,VE tb,VD VJ 0] 36)=W9 at *;have c0:W9.cell? ⟨w2.1.size,0,none⟩=some (VD VJ 5):=ai cy.out 0;have iT:=ae cy.out;refine(cJ.out _ _ ?_ ?_).mono ?_
      ·exact((aM gK.out rfl).ah cM.out).ah ((ac.refl _).alloc _)
      ·rw[<-gj];exact bY _ _ _ _ _ (by rw[<-bU];simp) (by rw[<-bU];simp) (by rw[<-bU,aX];simp) (by rw[<-bU];simp)
      clear bU;rintro e w3 ⟨v3,rfl,bB,hu3⟩;obtain⟨A3,c3,rfl,_,_,_⟩:=aJ bB;have aU:ac wr w3:=cM.out.trans (ac.trans (uZ) hu3);have a8:=HU.out.trans aU;clear bB hu3 aU c0;go_wp2;refine bodyPost_ret (v:=VI #[VF none 0 0,VF none 0 0,VD VJ a,VD VJ 3]) (by simp[results,Tryz.results63,go_sem]) rfl ?_;unfold dB;rw[bJ.out];exact⟨_,_,rfl,World.ownsRow_nil _ _ _ _,World.ownsRow_nil _ _ _ _,a8⟩
     have z5:¬((512:Int)<(g.length:Int)):=by omega
     by_cases eB:1024<=cuts.length
     ·have bJ:=aa (gR.out (.inr eB));have z6:((1024:Int)<=(cuts.length:Int)):=by omega
      clear gR cS;go_wp2_with fail;refine(fu.out _).mono ?_;rintro e w2 ⟨rfl,hu2⟩;have cM:=aa (show ac wr (w2.alloc (VK #[VD VJ 5,VE tb,VD VJ 0] 36))from hu2.alloc _);have cy:=aa (aO w2 (VK #[VD VJ 5,VE tb,VD VJ 0] 36) w2.1.size rfl);clear hu2;go_wp2_with fail;have bU:(w2.alloc (VK #[VD VJ 5,VE tb,VD VJ 0] 36)).1.size=w2.1.size+1:=by simp
      generalize w2.alloc (VK #[VD VJ 5,VE tb,VD VJ 0] 36)=W9 at *;have c0:W9.cell? ⟨w2.1.size,0,none⟩=some (VD VJ 5):=ai cy.out 0;have iT:=ae cy.out;refine(cJ.out _ _ ?_ ?_).mono ?_
      ·exact((aM gK.out rfl).ah cM.out).ah ((ac.refl _).alloc _)
      ·rw[<-gj];exact bY _ _ _ _ _ (by rw[<-bU];simp) (by rw[<-bU];simp) (by rw[<-bU,aX];simp) (by rw[<-bU];simp)
      clear bU;rintro e w3 ⟨v3,rfl,bB,hu3⟩;obtain⟨A3,c3,rfl,_,_,_⟩:=aJ bB;have aU:ac wr w3:=cM.out.trans (ac.trans (uZ) hu3);have a8:=HU.out.trans aU;clear bB hu3 aU c0;go_wp2;refine bodyPost_ret (v:=VI #[VF none 0 0,VF none 0 0,VD VJ a,VD VJ 3]) (by simp[results,Tryz.results63,go_sem]) rfl ?_;unfold dB;rw[bJ.out];exact⟨_,_,rfl,World.ownsRow_nil _ _ _ _,World.ownsRow_nil _ _ _ _,a8⟩
     have z6:¬((1024:Int)<=(cuts.length:Int)):=by omega
     have bJ:=aa (cS.out (by omega));clear gR cS;go_wp2_with fail;refine(fu.out _).mono ?_;rintro e w2 ⟨rfl,hu2⟩;have cM:=aa (show ac wr (w2.alloc (VK #[VD VJ 5,VE tb,VD VJ 0] 36))from hu2.alloc _);have cy:=aa (aO w2 (VK #[VD VJ 5,VE tb,VD VJ 0] 36) w2.1.size rfl);clear hu2;go_wp2_with fail;have bU:(w2.alloc (VK #[VD VJ 5,VE tb,VD VJ 0] 36)).1.size=w2.1.size+1:=by simp
     generalize w2.alloc (VK #[VD VJ 5,VE tb,VD VJ 0] 36)=W9 at *;have c0:W9.cell? ⟨w2.1.size,0,none⟩=some (VD VJ 5):=ai cy.out 0;have iT:=ae cy.out;refine(cJ.out _ _ ?_ ?_).mono ?_
     ·exact((aM gK.out rfl).ah cM.out).ah ((ac.refl _).alloc _)
     ·rw[<-gj];exact bY _ _ _ _ _ (by rw[<-bU];simp) (by rw[<-bU];simp) (by rw[<-bU,aX];simp) (by rw[<-bU];simp)
     clear bU;rintro e w3 ⟨v3,rfl,bB,hu3⟩;obtain⟨A3,c3,rfl,_,_,_⟩:=aJ bB;have aU:ac wr w3:=cM.out.trans (ac.trans (uZ) hu3);have a8:=HU.out.trans aU;have hs4:=aU.size;have cL:=aa (HU.out.trans aU);have fg:=aa (aA aU iQ.out);have mK:=aa (aA aU nH.out);have eS:=aa (cC (base':=w.1.size) bB (by have:=cM.out.size;simp;omega));have ij:∀x,(VF A3 g.length c3).ownBlock=some x->wr.1.size<=x:=λx hx=>by have:=ax bB x hx;have:=cM.out.size;simp at *;omega
     have hb3:=(hu3.below.block w2.1.size (by simp;omega)).trans ((dG _ _ _ iT).trans cy.out);have hc:w3.cell? ⟨w2.1.size,0,none⟩=some (.int .i64 5):=ai hb3 0;have hc1:w3.cell? ⟨w2.1.size,1,none⟩=some (.string tb):=ai hb3 1;have hc2:w3.cell? ⟨w2.1.size,2,none⟩=some (.int .i64 0):=ai hb3 2;haveI:af w2.1.size w3:=af.of (ae hb3);have wu:=aa ij;clear bB hu3 ij hb3 c0 cy;go_wp2_with (at_builtin;refine wpList_append_own _ rfl _ _ 42 rfl w.1.size 3 i0 (.int .i64 0) 1 8 Tryz.underlying42 hi hz0 hz1 hz2 rfl (by decide) (.slice fK cuts.length bl) cuts.length (eJ cuts) rfl ?_ _ 1 1 [.int .i64 d] rfl rfl ?_ ?_ (by unfold maxLen;omega) (by omega) ?_ ?_)
     ·exact aA (uZ) fg.out
     ·exact fF _ _ _
     ·intro u hu';simp at hu';subst hu';rfl
     ·have:=cL.out.size;simp;omega
     intro v' w5 dy eh _;rw[<-dl]at dy;have dO:=aa ((cL.out.alloc _).grown eh (λg hg=>ax fg.out g hg));have hA:∀ {W:VO} {v:Value} {n:Nat} {xs:List Value},ac w3 W->W.grownBy w5 (VF fK cuts.length bl).ownBlock->w3.ownsRow w.1.size 36 3 v n xs->w5.ownsRow w.1.size 36 3 v n xs:=λhW h5 hv=>(aA hW hv).kept h5 (cR (aA hW hv) (aA hW fg.out) (by decide))
     have kv:=aa (hA (uZ) eh eS.out);have ng:=aa (hA (uZ) eh mK.out);have eI:=aa dy;clear eh dy hA;go_wp2;exact⟨⟨a+n,a+n,c,g,op,cuts++[d],fuel,congrArg (VD VJ) (by omega),congrArg (VD VJ) (by omega),rfl,mW,by omega,kv.out,by simpa using ng.out,by simpa using eI.out,iM.out,by omega,by omega,by simp;omega,by simp;omega,by simp;omega,HS.out,bJ.out,dO.out⟩,by simp[intOf];omega⟩
    ·have hst:St.stepT op c 2 t=some (((c:Int)+1),op++[(2,t,(c:Int)+1)],c+1):=rfl;have cJ:=aa (pB.out ((c:Int)+1));have hadd:=HAD.out ((c:Int)+1);have gR:=aa (ck.out _ _ _ hst);have cS:=aa (HST.out _ _ _ hst);generalize hg:St.aV f (2,t,((c:Int)+1))=g at *;obtain⟨n9,hgt,hgl⟩:=hadd;have iM:=aa n9;clear hg n9 hst HAD pB ck HST dR
     by_cases bR:512<g.length
     ·have bJ:=aa (gR.out (.inl bR));have z5:((512:Int)<(g.length:Int)):=by omega
      clear gR cS;go_wp2_with fail;refine(fu.out _).mono ?_;rintro e w2 ⟨rfl,hu2⟩;have cM:=aa (show ac wr (w2.alloc (VK #[VD VJ 2,VE tb,VD VJ ((c:Int)+1)] 36))from hu2.alloc _);have cy:=aa (aO w2 (VK #[VD VJ 2,VE tb,VD VJ ((c:Int)+1)] 36) w2.1.size rfl);clear hu2;go_wp2_with fail;have bU:(w2.alloc (VK #[VD VJ 2,VE tb,VD VJ ((c:Int)+1)] 36)).1.size=w2.1.size+1:=by simp
      generalize w2.alloc (VK #[VD VJ 2,VE tb,VD VJ ((c:Int)+1)] 36)=W9 at *;have c0:W9.cell? ⟨w2.1.size,0,none⟩=some (VD VJ 2):=ai cy.out 0;have iT:=ae cy.out;refine(cJ.out _ _ ?_ ?_).mono ?_
      ·exact((aM gK.out rfl).ah cM.out).ah ((ac.refl _).alloc _)
      ·rw[<-gj];exact bY _ _ _ _ _ (by rw[<-bU];simp) (by rw[<-bU];simp) (by rw[<-bU,aX];simp) (by rw[<-bU];simp)
      clear bU;rintro e w3 ⟨v3,rfl,bB,hu3⟩;obtain⟨A3,c3,rfl,_,_,_⟩:=aJ bB;have aU:ac wr w3:=cM.out.trans (ac.trans (uZ) hu3);have a8:=HU.out.trans aU;clear bB hu3 aU c0;go_wp2;refine bodyPost_ret (v:=VI #[VF none 0 0,VF none 0 0,VD VJ a,VD VJ 3]) (by simp[results,Tryz.results63,go_sem]) rfl ?_;unfold dB;rw[bJ.out];exact⟨_,_,rfl,World.ownsRow_nil _ _ _ _,World.ownsRow_nil _ _ _ _,a8⟩
     have z5:¬((512:Int)<(g.length:Int)):=by omega
     by_cases eB:1024<=cuts.length
     ·have bJ:=aa (gR.out (.inr eB));have z6:((1024:Int)<=(cuts.length:Int)):=by omega
      clear gR cS;go_wp2_with fail;refine(fu.out _).mono ?_;rintro e w2 ⟨rfl,hu2⟩;have cM:=aa (show ac wr (w2.alloc (VK #[VD VJ 2,VE tb,VD VJ ((c:Int)+1)] 36))from hu2.alloc _);have cy:=aa (aO w2 (VK #[VD VJ 2,VE tb,VD VJ ((c:Int)+1)] 36) w2.1.size rfl);clear hu2;go_wp2_with fail;have bU:(w2.alloc (VK #[VD VJ 2,VE tb,VD VJ ((c:Int)+1)] 36)).1.size=w2.1.size+1:=by simp
      generalize w2.alloc (VK #[VD VJ 2,VE tb,VD VJ ((c:Int)+1)] 36)=W9 at *;have c0:W9.cell? ⟨w2.1.size,0,none⟩=some (VD VJ 2):=ai cy.out 0;have iT:=ae cy.out;refine(cJ.out _ _ ?_ ?_).mono ?_
      ·exact((aM gK.out rfl).ah cM.out).ah ((ac.refl _).alloc _)
      ·rw[<-gj];exact bY _ _ _ _ _ (by rw[<-bU];simp) (by rw[<-bU];simp) (by rw[<-bU,aX];simp) (by rw[<-bU];simp)
      clear bU;rintro e w3 ⟨v3,rfl,bB,hu3⟩;obtain⟨A3,c3,rfl,_,_,_⟩:=aJ bB;have aU:ac wr w3:=cM.out.trans (ac.trans (uZ) hu3);have a8:=HU.out.trans aU;clear bB hu3 aU c0;go_wp2;refine bodyPost_ret (v:=VI #[VF none 0 0,VF none 0 0,VD VJ a,VD VJ 3]) (by simp[results,Tryz.results63,go_sem]) rfl ?_;unfold dB;rw[bJ.out];exact⟨_,_,rfl,World.ownsRow_nil _ _ _ _,World.ownsRow_nil _ _ _ _,a8⟩
     have z6:¬((1024:Int)<=(cuts.length:Int)):=by omega
     have bJ:=aa (cS.out (by omega));clear gR cS;go_wp2_with fail;refine(fu.out _).mono ?_;rintro e w2 ⟨rfl,hu2⟩;have cM:=aa (show ac wr (w2.alloc (VK #[VD VJ 2,VE tb,VD VJ ((c:Int)+1)] 36))from hu2.alloc _);have cy:=aa (aO w2 (VK #[VD VJ 2,VE tb,VD VJ ((c:Int)+1)] 36) w2.1.size rfl);clear hu2;go_wp2_with fail;have bU:(w2.alloc (VK #[VD VJ 2,VE tb,VD VJ ((c:Int)+1)] 36)).1.size=w2.1.size+1:=by simp
     generalize w2.alloc (VK #[VD VJ 2,VE tb,VD VJ ((c:Int)+1)] 36)=W9 at *;have c0:W9.cell? ⟨w2.1.size,0,none⟩=some (VD VJ 2):=ai cy.out 0;have iT:=ae cy.out;refine(cJ.out _ _ ?_ ?_).mono ?_
     ·exact((aM gK.out rfl).ah cM.out).ah ((ac.refl _).alloc _)
     ·rw[<-gj];exact bY _ _ _ _ _ (by rw[<-bU];simp) (by rw[<-bU];simp) (by rw[<-bU,aX];simp) (by rw[<-bU];simp)
     clear bU;rintro e w3 ⟨v3,rfl,bB,hu3⟩;obtain⟨A3,c3,rfl,_,_,_⟩:=aJ bB;have aU:ac wr w3:=cM.out.trans (ac.trans (uZ) hu3);have a8:=HU.out.trans aU;have hs4:=aU.size;have cL:=aa (HU.out.trans aU);have fg:=aa (aA aU iQ.out);have mK:=aa (aA aU nH.out);have eS:=aa (cC (base':=w.1.size) bB (by have:=cM.out.size;simp;omega));have ij:∀x,(VF A3 g.length c3).ownBlock=some x->wr.1.size<=x:=λx hx=>by have:=ax bB x hx;have:=cM.out.size;simp at *;omega
     have hb3:=(hu3.below.block w2.1.size (by simp;omega)).trans ((dG _ _ _ iT).trans cy.out);have hc:w3.cell? ⟨w2.1.size,0,none⟩=some (.int .i64 2):=ai hb3 0;have hc1:w3.cell? ⟨w2.1.size,1,none⟩=some (.string tb):=ai hb3 1;have hc2:w3.cell? ⟨w2.1.size,2,none⟩=some (.int .i64 ((c:Int)+1)):=ai hb3 2;haveI:af w2.1.size w3:=af.of (ae hb3);have wu:=aa ij;clear bB hu3 ij hb3 c0 cy;go_wp2_with (at_builtin;refine sV rfl _ _ 37 rfl w.1.size 36 j0 (.agg #[.int .i64 0,.string ⟨#[]⟩,.int .i64 0]) 3 32 Tryz.underlying37 ji jz0 jz1 jz2 rfl (by decide) (.slice A9 op.length c9) op.length (av op) rfl ?_ _ 1 1 [.int .i64 2,.string tb,.int .i64 ((c:Int)+1)] rfl rfl ?_ (cG _ _ _) (by unfold maxLen;omega) (by omega) ?_ ?_)
     ·exact mK.out.alloc _
     ·exact ee _ _ _ _ _ _ rfl
     ·have:=cL.out.size;simp;omega
     intro v9 w4 jF sk Sb;have GR:ac w3 (w3.alloc (VK #[VD VJ 2,VE tb,VD VJ ((c:Int)+1)] 36)):=uZ
     have RE:=aa (show w4.ownsRow w.1.size 36 3 v9 (op++[(2,t,(c:Int)+1)]).length (av (op++[(2,t,(c:Int)+1)]))by
      rw[bw,List.length_append,List.length_singleton,<-gj];simp only[aX];exact jF)
     have hne:(VF A3 g.length c3).ownBlock=none\/(VF A3 g.length c3).ownBlock≠(VF A9 op.length c9).ownBlock:=by
      cases hb:(VF A3 g.length c3).ownBlock with
      | none=>exact .inl rfl
      | some x=>
       refine .inr λe=>?_
       have:=wu.out x hb
       have:=(nH.out.lt x e.symm).2
       omega
     have RD:=aa ((aA GR eS.out).kept sk hne);have DO:=aa ((aA GR fg.out).kept sk (cR (aA GR fg.out) (aA GR mK.out) (by decide)));have Nf:=aa ((cL.out.alloc _).grown sk (λg hg=>ax mK.out g hg));obtain⟨UO,c9',rfl,_⟩:=aC jF;clear sk jF Sb hne GR hc hc1 hc2 cL eS fg mK wu;go_wp2_with (at_builtin;refine wpList_append_own _ rfl _ _ 42 rfl w.1.size 3 i0 (.int .i64 0) 1 8 Tryz.underlying42 hi hz0 hz1 hz2 rfl (by decide) (.slice fK cuts.length bl) cuts.length (eJ cuts) rfl ?_ _ 1 1 [.int .i64 d] rfl rfl ?_ ?_ (by unfold maxLen;omega) (by omega) ?_ ?_)
     ·exact aA (uZ) DO.out
     ·exact fF _ _ _
     ·intro u hu';simp at hu';subst hu';rfl
     ·have:=Nf.out.size;simp;omega
     intro v' w5 dy eh _;rw[<-dl]at dy;have dO:=aa ((Nf.out.alloc _).grown eh (λg hg=>ax DO.out g hg));have hA:∀ {W:VO} {v:Value} {n:Nat} {xs:List Value},ac w4 W->W.grownBy w5 (VF fK cuts.length bl).ownBlock->w4.ownsRow w.1.size 36 3 v n xs->w5.ownsRow w.1.size 36 3 v n xs:=λhW h5 hv=>(aA hW hv).kept h5 (cR (aA hW hv) (aA hW DO.out) (by decide))
     have kv:=aa (hA (uZ) eh RD.out);have ng:=aa (hA (uZ) eh RE.out);have eI:=aa dy;clear eh dy hA;go_wp2;exact⟨⟨a+n,a+n,c+1,g,op++[(2,t,(c:Int)+1)],cuts++[d],fuel,congrArg (VD VJ) (by omega),congrArg (VD VJ) (by omega),congrArg (VD VJ) (by omega),mW,by omega,kv.out,by simpa using ng.out,by simpa using eI.out,iM.out,by omega,by omega,by simp;omega,by simp;omega,by simp;omega,(λo ho=>by rcases List.mem_append.1 ho with ho|ho;exact HS.out o ho;simp at ho;subst ho;show t.length<=_;omega),bJ.out,dO.out⟩,by simp[intOf];omega⟩
    ·have hst:St.stepT op c 4 t=some (((c:Int)+1),op,c+1):=rfl;have cJ:=aa (pB.out ((c:Int)+1));have hadd:=HAD.out ((c:Int)+1);have gR:=aa (ck.out _ _ _ hst);have cS:=aa (HST.out _ _ _ hst);generalize hg:St.aV f (4,t,((c:Int)+1))=g at *;obtain⟨n9,hgt,hgl⟩:=hadd;have iM:=aa n9;clear hg n9 hst HAD pB ck HST dR
     by_cases bR:512<g.length
     ·have bJ:=aa (gR.out (.inl bR));have z5:((512:Int)<(g.length:Int)):=by omega
      clear gR cS;go_wp2_with fail;refine(fu.out _).mono ?_;rintro e w2 ⟨rfl,hu2⟩;have cM:=aa (show ac wr (w2.alloc (VK #[VD VJ 4,VE tb,VD VJ ((c:Int)+1)] 36))from hu2.alloc _);have cy:=aa (aO w2 (VK #[VD VJ 4,VE tb,VD VJ ((c:Int)+1)] 36) w2.1.size rfl);clear hu2;go_wp2_with fail;have bU:(w2.alloc (VK #[VD VJ 4,VE tb,VD VJ ((c:Int)+1)] 36)).1.size=w2.1.size+1:=by simp
      generalize w2.alloc (VK #[VD VJ 4,VE tb,VD VJ ((c:Int)+1)] 36)=W9 at *;have c0:W9.cell? ⟨w2.1.size,0,none⟩=some (VD VJ 4):=ai cy.out 0;have iT:=ae cy.out;refine(cJ.out _ _ ?_ ?_).mono ?_
      ·exact((aM gK.out rfl).ah cM.out).ah ((ac.refl _).alloc _)
      ·rw[<-gj];exact bY _ _ _ _ _ (by rw[<-bU];simp) (by rw[<-bU];simp) (by rw[<-bU,aX];simp) (by rw[<-bU];simp)
      clear bU;rintro e w3 ⟨v3,rfl,bB,hu3⟩;obtain⟨A3,c3,rfl,_,_,_⟩:=aJ bB;have aU:ac wr w3:=cM.out.trans (ac.trans (uZ) hu3);have a8:=HU.out.trans aU;clear bB hu3 aU c0;go_wp2;refine bodyPost_ret (v:=VI #[VF none 0 0,VF none 0 0,VD VJ a,VD VJ 3]) (by simp[results,Tryz.results63,go_sem]) rfl ?_;unfold dB;rw[bJ.out];exact⟨_,_,rfl,World.ownsRow_nil _ _ _ _,World.ownsRow_nil _ _ _ _,a8⟩
     have z5:¬((512:Int)<(g.length:Int)):=by omega
     by_cases eB:1024<=cuts.length
     ·have bJ:=aa (gR.out (.inr eB));have z6:((1024:Int)<=(cuts.length:Int)):=by omega
      clear gR cS;go_wp2_with fail;refine(fu.out _).mono ?_;rintro e w2 ⟨rfl,hu2⟩;have cM:=aa (show ac wr (w2.alloc (VK #[VD VJ 4,VE tb,VD VJ ((c:Int)+1)] 36))from hu2.alloc _);have cy:=aa (aO w2 (VK #[VD VJ 4,VE tb,VD VJ ((c:Int)+1)] 36) w2.1.size rfl);clear hu2;go_wp2_with fail;have bU:(w2.alloc (VK #[VD VJ 4,VE tb,VD VJ ((c:Int)+1)] 36)).1.size=w2.1.size+1:=by simp
      generalize w2.alloc (VK #[VD VJ 4,VE tb,VD VJ ((c:Int)+1)] 36)=W9 at *;have c0:W9.cell? ⟨w2.1.size,0,none⟩=some (VD VJ 4):=ai cy.out 0;have iT:=ae cy.out;refine(cJ.out _ _ ?_ ?_).mono ?_
      ·exact((aM gK.out rfl).ah cM.out).ah ((ac.refl _).alloc _)
      ·rw[<-gj];exact bY _ _ _ _ _ (by rw[<-bU];simp) (by rw[<-bU];simp) (by rw[<-bU,aX];simp) (by rw[<-bU];simp)
      clear bU;rintro e w3 ⟨v3,rfl,bB,hu3⟩;obtain⟨A3,c3,rfl,_,_,_⟩:=aJ bB;have aU:ac wr w3:=cM.out.trans (ac.trans (uZ) hu3);have a8:=HU.out.trans aU;clear bB hu3 aU c0;go_wp2;refine bodyPost_ret (v:=VI #[VF none 0 0,VF none 0 0,VD VJ a,VD VJ 3]) (by simp[results,Tryz.results63,go_sem]) rfl ?_;unfold dB;rw[bJ.out];exact⟨_,_,rfl,World.ownsRow_nil _ _ _ _,World.ownsRow_nil _ _ _ _,a8⟩
     have z6:¬((1024:Int)<=(cuts.length:Int)):=by omega
     have bJ:=aa (cS.out (by omega));clear gR cS;go_wp2_with fail;refine(fu.out _).mono ?_;rintro e w2 ⟨rfl,hu2⟩;have cM:=aa (show ac wr (w2.alloc (VK #[VD VJ 4,VE tb,VD VJ ((c:Int)+1)] 36))from hu2.alloc _);have cy:=aa (aO w2 (VK #[VD VJ 4,VE tb,VD VJ ((c:Int)+1)] 36) w2.1.size rfl);clear hu2;go_wp2_with fail;have bU:(w2.alloc (VK #[VD VJ 4,VE tb,VD VJ ((c:Int)+1)] 36)).1.size=w2.1.size+1:=by simp
     generalize w2.alloc (VK #[VD VJ 4,VE tb,VD VJ ((c:Int)+1)] 36)=W9 at *;have c0:W9.cell? ⟨w2.1.size,0,none⟩=some (VD VJ 4):=ai cy.out 0;have iT:=ae cy.out;refine(cJ.out _ _ ?_ ?_).mono ?_
     ·exact((aM gK.out rfl).ah cM.out).ah ((ac.refl _).alloc _)
     ·rw[<-gj];exact bY _ _ _ _ _ (by rw[<-bU];simp) (by rw[<-bU];simp) (by rw[<-bU,aX];simp) (by rw[<-bU];simp)
     clear bU;rintro e w3 ⟨v3,rfl,bB,hu3⟩;obtain⟨A3,c3,rfl,_,_,_⟩:=aJ bB;have aU:ac wr w3:=cM.out.trans (ac.trans (uZ) hu3);have a8:=HU.out.trans aU;have hs4:=aU.size;have cL:=aa (HU.out.trans aU);have fg:=aa (aA aU iQ.out);have mK:=aa (aA aU nH.out);have eS:=aa (cC (base':=w.1.size) bB (by have:=cM.out.size;simp;omega));have ij:∀x,(VF A3 g.length c3).ownBlock=some x->wr.1.size<=x:=λx hx=>by have:=ax bB x hx;have:=cM.out.size;simp at *;omega
     have hb3:=(hu3.below.block w2.1.size (by simp;omega)).trans ((dG _ _ _ iT).trans cy.out);have hc:w3.cell? ⟨w2.1.size,0,none⟩=some (.int .i64 4):=ai hb3 0;have hc1:w3.cell? ⟨w2.1.size,1,none⟩=some (.string tb):=ai hb3 1;have hc2:w3.cell? ⟨w2.1.size,2,none⟩=some (.int .i64 ((c:Int)+1)):=ai hb3 2;haveI:af w2.1.size w3:=af.of (ae hb3);have wu:=aa ij;clear bB hu3 ij hb3 c0 cy;go_wp2_with (at_builtin;refine wpList_append_own _ rfl _ _ 42 rfl w.1.size 3 i0 (.int .i64 0) 1 8 Tryz.underlying42 hi hz0 hz1 hz2 rfl (by decide) (.slice fK cuts.length bl) cuts.length (eJ cuts) rfl ?_ _ 1 1 [.int .i64 d] rfl rfl ?_ ?_ (by unfold maxLen;omega) (by omega) ?_ ?_)
     ·exact aA (uZ) fg.out
     ·exact fF _ _ _
     ·intro u hu';simp at hu';subst hu';rfl
     ·have:=cL.out.size;simp;omega
     intro v' w5 dy eh _;rw[<-dl]at dy;have dO:=aa ((cL.out.alloc _).grown eh (λg hg=>ax fg.out g hg));have hA:∀ {W:VO} {v:Value} {n:Nat} {xs:List Value},ac w3 W->W.grownBy w5 (VF fK cuts.length bl).ownBlock->w3.ownsRow w.1.size 36 3 v n xs->w5.ownsRow w.1.size 36 3 v n xs:=λhW h5 hv=>(aA hW hv).kept h5 (cR (aA hW hv) (aA hW fg.out) (by decide))
     have kv:=aa (hA (uZ) eh eS.out);have ng:=aa (hA (uZ) eh mK.out);have eI:=aa dy;clear eh dy hA;go_wp2;exact⟨⟨a+n,a+n,c+1,g,op,cuts++[d],fuel,congrArg (VD VJ) (by omega),congrArg (VD VJ) (by omega),congrArg (VD VJ) (by omega),mW,by omega,kv.out,by simpa using ng.out,by simpa using eI.out,iM.out,by omega,by omega,by simp;omega,by simp;omega,by simp;omega,HS.out,bJ.out,dO.out⟩,by simp[intOf];omega⟩
    rcases St.dD op with rfl|⟨o1,o,rfl⟩
    ·have bJ:=aa (dR.out rfl);simp only[List.length_nil];clear dR ck HST pB HAD;go_wp2_with fail;refine(fu.out _).mono ?_;rintro e w2 ⟨rfl,hu2⟩;have pr:=aa hu2;clear hu2;go_wp2_with fail
     first|refine aB (by kernel_rfl) (by kernel_rfl) ?_|refine aI (by kernel_rfl) (by kernel_rfl) ?_
     repeat (go_big_quiet_step (first|(fail)))
     refine wpQuiet_nil ?_;rintro _ ⟨X,rfl⟩;have hu3:ac w (under (w2.alloc (VK #[VD VJ 3,VE tb,VD VJ 0] 36)) X):=HU.out.trans (pr.out.trans uZ);clear pr;go_wp2;refine bodyPost_ret (v:=VI #[VF none 0 0,VF none 0 0,VD VJ a,VD VJ 7]) (by simp[results,Tryz.results63,go_sem]) rfl ?_;unfold dB;rw[bJ.out];exact⟨_,_,rfl,World.ownsRow_nil _ _ _ _,World.ownsRow_nil _ _ _ _,hu3⟩
    obtain⟨m,hm⟩:∃m,o1.length=m:=⟨_,rfl⟩;have hol:(o1++[o]).length=m+1:=by simp[hm]
    have bB:=nH.out;rw[hol]at bB;obtain⟨gb,rfl,jD,hgl',hgc⟩:=dY bB (by omega);have GK:(o1++[o])[m]?=some o:=by rw[<-hm];simp
    have hcs:=jT (o1++[o]) m (by rw[hol];omega);have yb:(o1++[o])[m]'(by rw[hol];omega)=o:=Option.some.inj ((List.getElem?_eq_getElem (by rw[hol];omega)).symm.trans GK);rw[yb]at hcs;have i1:=hgc _ _ hcs.2.1;have i2:=hgc _ _ hcs.2.2;have Om:o.2.1.length<=4611686018427387904:=by have:=HS.out o (by simp);omega
    obtain⟨ok,ot,oi⟩:=o;simp only at i1 i2 Om;haveI:af gb wr:=af.of hgl';have z0:¬((m:Int)<0):=by omega
    have z3:(m:Int)<((m+1:Nat):Int):=by omega
    have AV:m<=2000:=by rw[hol]at h3;omega
    obtain⟨Uz,hc9b⟩:m+1<=c9/\c9<=maxLen:=by
     obtain⟨_,_,e,ha,hb⟩:=aC bB;simp only[Value.slice.injEq]at e;obtain⟨_,_,rfl⟩:=e;exact⟨ha,hb⟩
    have FK:=aa hol;have bk:=aa (λW=>jZ ot W (by omega));have HM:=aa hm
    have RF:=aa (show wr.ownsRow w.1.size 36 3 (VF (some ⟨gb,0,none⟩) o1.length c9) o1.length (av o1)by
     have hsh:=tR bB m (by omega);have ED:(av (o1++[(ok,ot,oi)])).take (m*3)=av o1:=by rw[bw,List.take_left' (by rw[jz,hm])]
     rw[ED]at hsh
     rw[hm];exact hsh)
    rw[hol]at h3;simp only[hol];clear hcs hgc GK yb hol bB hm;obtain⟨sb,mX⟩:∃sb:ByteArray,(⟨ot.toArray⟩:ByteArray)=sb:=⟨_,rfl⟩;obtain⟨nb,hnb⟩:∃nb:ByteArray,(⟨(St.nameOf ot).toArray⟩:ByteArray)=nb:=⟨_,rfl⟩;rw[mX,hnb]at bk;rw[mX]at i1;have hnl:nb.1.1=St.nameOf ot:=by rw[<-hnb]
    clear mX hnb;obtain⟨bq,hq⟩:∃bq,(nb.toList != tb.toList)=bq:=⟨_,rfl⟩
    have EE:St.stepT (o1++[(ok,ot,oi)]) c 3 t=if bq then none else some (oi,o1,c):=by
     unfold St.stepT;simp only[if_true,List.getLast?_append,List.getLast?_singleton,Option.some_or,List.dropLast_concat];cases bq
     ·rw[bne_eq_false_iff_eq,Lib.toList_data,Lib.toList_data,hnl,gj]at hq;rw[if_pos hq];rfl
     rw[bne_iff_ne,Lib.toList_data,Lib.toList_data,hnl,gj]at hq;rw[if_neg hq];rfl
    clear hnl;cases bq;rotate_left 1
    ·have bJ:=aa (dR.out EE);clear EE dR ck HST pB HAD;have Oq:(nb.toList==tb.toList)=false:=by simpa using hq
     have GM:(!(nb.toList==tb.toList))=true:=hq;go_wp2_with fail;refine(fu.out _).mono ?_;rintro e w2 ⟨rfl,hu2⟩;have wV:wr.1.size<=w2.1.size:=hu2.size;have l1:w2.cell? ⟨gb,m*3+1,none⟩=some (VE sb):=(hu2.cell (p:=⟨gb,m*3+1,none⟩) hgl').trans i1;haveI:af gb w2:=af.of (Nat.lt_of_lt_of_le hgl' hu2.size);have pr:=aa hu2;clear hu2;go_wp2_with fail;have tZ:(decide ((m:Int)<0))=false:=decide_eq_false (by omega)
     first|refine aB (by kernel_rfl) (by kernel_rfl) ?_|refine aI (by kernel_rfl) (by kernel_rfl) ?_
     repeat (go_big_quiet_step (first|(go_at_call 105;exact Calls.cK (bk.out _))))
     refine wpQuiet_nil ?_;rintro _ ⟨X,rfl⟩;clear tZ;have hI:ac (w2.alloc (VK #[VD VJ 3,VE tb,VD VJ 0] 36)) (under (w2.alloc (VK #[VD VJ 3,VE tb,VD VJ 0] 36)) X):=⟨X,rfl⟩;generalize under (w2.alloc (VK #[VD VJ 3,VE tb,VD VJ 0] 36)) X=W at *;have jn:=aa ((pr.out.alloc _).trans hI);have rO:=aa (HU.out.trans jn.out);have ia:=aa ((hI.below.block w2.1.size (by simp)).trans (aO w2 (VK #[VD VJ 3,VE tb,VD VJ 0] 36) w2.1.size rfl));clear hI;go_wp2;refine bodyPost_ret (v:=VI #[VF none 0 0,VF none 0 0,VD VJ a,VD VJ 7]) (by simp[results,Tryz.results63,go_sem]) rfl ?_;unfold dB;rw[bJ.out];exact⟨_,_,rfl,World.ownsRow_nil _ _ _ _,World.ownsRow_nil _ _ _ _,rO.out⟩
    have hst:St.stepT (o1++[(ok,ot,oi)]) c 3 t=some (oi,o1,c):=EE;have Oq:(nb.toList==tb.toList)=true:=by simpa using hq
    have GM:(!(nb.toList==tb.toList))=false:=hq;clear EE;have cJ:=aa (pB.out oi);have hadd:=HAD.out oi;have gR:=aa (ck.out _ _ _ hst);have cS:=aa (HST.out _ _ _ hst);generalize hg:St.aV f (3,t,oi)=g at *;obtain⟨n9,hgt,hgl⟩:=hadd;have iM:=aa n9;clear hg n9 hst HAD pB ck HST dR
    by_cases bR:512<g.length
    ·have bJ:=aa (gR.out (.inl bR));have z5:((512:Int)<(g.length:Int)):=by omega
     clear gR cS;go_wp2_with fail;refine(fu.out _).mono ?_;rintro e w2 ⟨rfl,hu2⟩;have wV:wr.1.size<=w2.1.size:=hu2.size;have l1:w2.cell? ⟨gb,m*3+1,none⟩=some (VE sb):=(hu2.cell (p:=⟨gb,m*3+1,none⟩) hgl').trans i1;haveI:af gb w2:=af.of (Nat.lt_of_lt_of_le hgl' hu2.size);have pr:=aa hu2;clear hu2;go_wp2_with fail;have tZ:(decide ((m:Int)<0))=false:=decide_eq_false (by omega)
     first|refine aB (by kernel_rfl) (by kernel_rfl) ?_|refine aI (by kernel_rfl) (by kernel_rfl) ?_
     repeat (go_big_quiet_step (first|(go_at_call 105;exact Calls.cK (bk.out _))))
     refine wpQuiet_nil ?_;rintro _ ⟨X,rfl⟩;clear tZ;have hI:ac (w2.alloc (VK #[VD VJ 3,VE tb,VD VJ 0] 36)) (under (w2.alloc (VK #[VD VJ 3,VE tb,VD VJ 0] 36)) X):=⟨X,rfl⟩;generalize under (w2.alloc (VK #[VD VJ 3,VE tb,VD VJ 0] 36)) X=W at *;have jn:=aa ((pr.out.alloc _).trans hI);have rO:=aa (HU.out.trans jn.out);have ia:=aa ((hI.below.block w2.1.size (by simp)).trans (aO w2 (VK #[VD VJ 3,VE tb,VD VJ 0] 36) w2.1.size rfl));clear hI;have q2:W.cell? ⟨gb,m*3+2,none⟩=some (VD VJ oi):=(jn.out.cell (p:=⟨gb,m*3+2,none⟩) hgl').trans i2;have x0:W.cell? ⟨w2.1.size,0,none⟩=some (VD VJ 3):=ai ia.out 0;have x1:W.cell? ⟨w2.1.size,1,none⟩=some (VE tb):=ai ia.out 1;have x2:W.cell? ⟨w2.1.size,2,none⟩=some (VD VJ 0):=ai ia.out 2;have Li:W.frozen? ⟨w2.1.size,2,none⟩=false:=bg ia.out 2;haveI:af w2.1.size W:=af.of (ae ia.out);haveI:af gb W:=af.of (Nat.lt_of_lt_of_le hgl' jn.out.size);have cM:=aa (jn.out.setCell (p:=⟨w2.1.size,2,none⟩) wV (VD VJ oi));have cy:=aa (heap_setCell_same _ _ 2 _ _ (VD VJ oi) ia.out);go_wp2_with fail;have bU:(W.setCell ⟨w2.1.size,2,none⟩ (VD VJ oi)).1.size=W.1.size:=by simp
     generalize W.setCell ⟨w2.1.size,2,none⟩ (VD VJ oi)=W9 at *;have c0:W9.cell? ⟨w2.1.size,0,none⟩=some (VD VJ 3):=ai cy.out 0;have iT:=ae cy.out;refine(cJ.out _ _ ?_ ?_).mono ?_
     ·exact((aM gK.out rfl).ah cM.out).ah ((ac.refl _).alloc _)
     ·rw[<-gj];exact bY _ _ _ _ _ (by rw[<-bU];simp) (by rw[<-bU];simp) (by rw[<-bU,aX];simp) (by rw[<-bU];simp)
     clear bU;rintro e w3 ⟨v3,rfl,bB,hu3⟩;obtain⟨A3,c3,rfl,_,_,_⟩:=aJ bB;have aU:ac wr w3:=cM.out.trans (ac.trans (uZ) hu3);have a8:=HU.out.trans aU;clear bB hu3 aU c0;go_wp2;refine bodyPost_ret (v:=VI #[VF none 0 0,VF none 0 0,VD VJ a,VD VJ 3]) (by simp[results,Tryz.results63,go_sem]) rfl ?_;unfold dB;rw[bJ.out];exact⟨_,_,rfl,World.ownsRow_nil _ _ _ _,World.ownsRow_nil _ _ _ _,a8⟩
    have z5:¬((512:Int)<(g.length:Int)):=by omega
    by_cases eB:1024<=cuts.length
    ·have bJ:=aa (gR.out (.inr eB));have z6:((1024:Int)<=(cuts.length:Int)):=by omega
     clear gR cS;go_wp2_with fail;refine(fu.out _).mono ?_;rintro e w2 ⟨rfl,hu2⟩;have wV:wr.1.size<=w2.1.size:=hu2.size;have l1:w2.cell? ⟨gb,m*3+1,none⟩=some (VE sb):=(hu2.cell (p:=⟨gb,m*3+1,none⟩) hgl').trans i1;haveI:af gb w2:=af.of (Nat.lt_of_lt_of_le hgl' hu2.size);have pr:=aa hu2;clear hu2;go_wp2_with fail;have tZ:(decide ((m:Int)<0))=false:=decide_eq_false (by omega)
     first|refine aB (by kernel_rfl) (by kernel_rfl) ?_|refine aI (by kernel_rfl) (by kernel_rfl) ?_
     repeat (go_big_quiet_step (first|(go_at_call 105;exact Calls.cK (bk.out _))))
     refine wpQuiet_nil ?_;rintro _ ⟨X,rfl⟩;clear tZ;have hI:ac (w2.alloc (VK #[VD VJ 3,VE tb,VD VJ 0] 36)) (under (w2.alloc (VK #[VD VJ 3,VE tb,VD VJ 0] 36)) X):=⟨X,rfl⟩;generalize under (w2.alloc (VK #[VD VJ 3,VE tb,VD VJ 0] 36)) X=W at *;have jn:=aa ((pr.out.alloc _).trans hI);have rO:=aa (HU.out.trans jn.out);have ia:=aa ((hI.below.block w2.1.size (by simp)).trans (aO w2 (VK #[VD VJ 3,VE tb,VD VJ 0] 36) w2.1.size rfl));clear hI;have q2:W.cell? ⟨gb,m*3+2,none⟩=some (VD VJ oi):=(jn.out.cell (p:=⟨gb,m*3+2,none⟩) hgl').trans i2;have x0:W.cell? ⟨w2.1.size,0,none⟩=some (VD VJ 3):=ai ia.out 0;have x1:W.cell? ⟨w2.1.size,1,none⟩=some (VE tb):=ai ia.out 1;have x2:W.cell? ⟨w2.1.size,2,none⟩=some (VD VJ 0):=ai ia.out 2;have Li:W.frozen? ⟨w2.1.size,2,none⟩=false:=bg ia.out 2;haveI:af w2.1.size W:=af.of (ae ia.out);haveI:af gb W:=af.of (Nat.lt_of_lt_of_le hgl' jn.out.size);have cM:=aa (jn.out.setCell (p:=⟨w2.1.size,2,none⟩) wV (VD VJ oi));have cy:=aa (heap_setCell_same _ _ 2 _ _ (VD VJ oi) ia.out);go_wp2_with fail;have bU:(W.setCell ⟨w2.1.size,2,none⟩ (VD VJ oi)).1.size=W.1.size:=by simp
     generalize W.setCell ⟨w2.1.size,2,none⟩ (VD VJ oi)=W9 at *;have c0:W9.cell? ⟨w2.1.size,0,none⟩=some (VD VJ 3):=ai cy.out 0;have iT:=ae cy.out;refine(cJ.out _ _ ?_ ?_).mono ?_
     ·exact((aM gK.out rfl).ah cM.out).ah ((ac.refl _).alloc _)
     ·rw[<-gj];exact bY _ _ _ _ _ (by rw[<-bU];simp) (by rw[<-bU];simp) (by rw[<-bU,aX];simp) (by rw[<-bU];simp)
     clear bU;rintro e w3 ⟨v3,rfl,bB,hu3⟩;obtain⟨A3,c3,rfl,_,_,_⟩:=aJ bB;have aU:ac wr w3:=cM.out.trans (ac.trans (uZ) hu3);have a8:=HU.out.trans aU;clear bB hu3 aU c0;go_wp2;refine bodyPost_ret (v:=VI #[VF none 0 0,VF none 0 0,VD VJ a,VD VJ 3]) (by simp[results,Tryz.results63,go_sem]) rfl ?_;unfold dB;rw[bJ.out];exact⟨_,_,rfl,World.ownsRow_nil _ _ _ _,World.ownsRow_nil _ _ _ _,a8⟩
    have z6:¬((1024:Int)<=(cuts.length:Int)):=by omega
    have bJ:=aa (cS.out (by omega));clear gR cS;go_wp2_with fail;refine(fu.out _).mono ?_;rintro e w2 ⟨rfl,hu2⟩;have wV:wr.1.size<=w2.1.size:=hu2.size;have l1:w2.cell? ⟨gb,m*3+1,none⟩=some (VE sb):=(hu2.cell (p:=⟨gb,m*3+1,none⟩) hgl').trans i1;haveI:af gb w2:=af.of (Nat.lt_of_lt_of_le hgl' hu2.size);have pr:=aa hu2;clear hu2;go_wp2_with fail;have tZ:(decide ((m:Int)<0))=false:=decide_eq_false (by omega)
    first|refine aB (by kernel_rfl) (by kernel_rfl) ?_|refine aI (by kernel_rfl) (by kernel_rfl) ?_
    repeat (go_big_quiet_step (first|(go_at_call 105;exact Calls.cK (bk.out _))))
    refine wpQuiet_nil ?_;rintro _ ⟨X,rfl⟩;clear tZ;have hI:ac (w2.alloc (VK #[VD VJ 3,VE tb,VD VJ 0] 36)) (under (w2.alloc (VK #[VD VJ 3,VE tb,VD VJ 0] 36)) X):=⟨X,rfl⟩;generalize under (w2.alloc (VK #[VD VJ 3,VE tb,VD VJ 0] 36)) X=W at *;have jn:=aa ((pr.out.alloc _).trans hI);have rO:=aa (HU.out.trans jn.out);have ia:=aa ((hI.below.block w2.1.size (by simp)).trans (aO w2 (VK #[VD VJ 3,VE tb,VD VJ 0] 36) w2.1.size rfl));clear hI;have q2:W.cell? ⟨gb,m*3+2,none⟩=some (VD VJ oi):=(jn.out.cell (p:=⟨gb,m*3+2,none⟩) hgl').trans i2;have x0:W.cell? ⟨w2.1.size,0,none⟩=some (VD VJ 3):=ai ia.out 0;have x1:W.cell? ⟨w2.1.size,1,none⟩=some (VE tb):=ai ia.out 1;have x2:W.cell? ⟨w2.1.size,2,none⟩=some (VD VJ 0):=ai ia.out 2;have Li:W.frozen? ⟨w2.1.size,2,none⟩=false:=bg ia.out 2;haveI:af w2.1.size W:=af.of (ae ia.out);haveI:af gb W:=af.of (Nat.lt_of_lt_of_le hgl' jn.out.size);have cM:=aa (jn.out.setCell (p:=⟨w2.1.size,2,none⟩) wV (VD VJ oi));have cy:=aa (heap_setCell_same _ _ 2 _ _ (VD VJ oi) ia.out);go_wp2_with fail;have bU:(W.setCell ⟨w2.1.size,2,none⟩ (VD VJ oi)).1.size=W.1.size:=by simp
    generalize W.setCell ⟨w2.1.size,2,none⟩ (VD VJ oi)=W9 at *;have c0:W9.cell? ⟨w2.1.size,0,none⟩=some (VD VJ 3):=ai cy.out 0;have iT:=ae cy.out;refine(cJ.out _ _ ?_ ?_).mono ?_
    ·exact((aM gK.out rfl).ah cM.out).ah ((ac.refl _).alloc _)
    ·rw[<-gj];exact bY _ _ _ _ _ (by rw[<-bU];simp) (by rw[<-bU];simp) (by rw[<-bU,aX];simp) (by rw[<-bU];simp)
    clear bU;rintro e w3 ⟨v3,rfl,bB,hu3⟩;obtain⟨A3,c3,rfl,_,_,_⟩:=aJ bB;have aU:ac wr w3:=cM.out.trans (ac.trans (uZ) hu3);have a8:=HU.out.trans aU;have hs4:=aU.size;have cL:=aa (HU.out.trans aU);have fg:=aa (aA aU iQ.out);have mK:=aa (aA aU RF.out);have eS:=aa (cC (base':=w.1.size) bB (by have:=cM.out.size;simp;omega));have ij:∀x,(VF A3 g.length c3).ownBlock=some x->wr.1.size<=x:=λx hx=>by have:=ax bB x hx;have:=cM.out.size;simp at *;omega
    have hb3:=(hu3.below.block w2.1.size (by simp;omega)).trans ((dG _ _ _ iT).trans cy.out);have hc:w3.cell? ⟨w2.1.size,0,none⟩=some (.int .i64 3):=ai hb3 0;have hc1:w3.cell? ⟨w2.1.size,1,none⟩=some (.string tb):=ai hb3 1;have hc2:w3.cell? ⟨w2.1.size,2,none⟩=some (.int .i64 oi):=ai hb3 2;haveI:af w2.1.size w3:=af.of (ae hb3);have wu:=aa ij;clear bB hu3 ij hb3 c0 cy;go_wp2_with (at_builtin;refine wpList_append_own _ rfl _ _ 42 rfl w.1.size 3 i0 (.int .i64 0) 1 8 Tryz.underlying42 hi hz0 hz1 hz2 rfl (by decide) (.slice fK cuts.length bl) cuts.length (eJ cuts) rfl ?_ _ 1 1 [.int .i64 d] rfl rfl ?_ ?_ (by unfold maxLen;omega) (by omega) ?_ ?_)
    ·exact aA (uZ) fg.out
    ·exact fF _ _ _
    ·intro u hu';simp at hu';subst hu';rfl
    ·have:=cL.out.size;simp;omega
    intro v' w5 dy eh _;rw[<-dl]at dy;have dO:=aa ((cL.out.alloc _).grown eh (λg hg=>ax fg.out g hg));have hA:∀ {W:VO} {v:Value} {n:Nat} {xs:List Value},ac w3 W->W.grownBy w5 (VF fK cuts.length bl).ownBlock->w3.ownsRow w.1.size 36 3 v n xs->w5.ownsRow w.1.size 36 3 v n xs:=λhW h5 hv=>(aA hW hv).kept h5 (cR (aA hW hv) (aA hW fg.out) (by decide))
    have kv:=aa (hA (uZ) eh eS.out);have ng:=aa (hA (uZ) eh mK.out);have eI:=aa dy;clear eh dy hA;go_wp2;have hm':=HM.out;subst hm';exact⟨⟨a+n,a+n,c,g,o1,cuts++[d],fuel,congrArg (VD VJ) (by omega),congrArg (VD VJ) (by omega),rfl,mW,by omega,kv.out,by simpa using ng.out,by simpa using eI.out,iM.out,by omega,by omega,by simp;omega,by simp;omega,by simp;omega,(λo ho=>HS.out o (by simp[ho])),bJ.out,dO.out⟩,by simp[intOf];omega⟩
  have vy:a=au.size:=by omega
  subst vy;have hnil:au.1.1.drop au.size=[]:=List.drop_of_length_le (by simp);have hd2:=HD.out;rw[hnil,St.nT]at hd2;unfold St.la at hd2;have bJ:=aa hd2;obtain⟨A9,c9,rfl,_,_,hA9⟩:=aJ hO9;obtain⟨fK,bl,rfl,_,_,hA10⟩:=aJ hO10;have kc:=HU.out.size;clear hlt hD HD hu hnil hd2 hO8 hO9 hO10
  by_cases hop:op=[]
  rotate_left 1
  ·have z1:(0:Int)<(op.length:Int):=by have:=List.length_pos_iff.2 hop;omega
   have rG:=aa (show St.dv E au.size au.1.1 0 0 [] [] [] 0=([],[],au.size,7)by rw[bJ.out,if_neg hop]);clear hop;go_wp2;refine bodyPost_ret (v:=VI #[VF none 0 0,VF none 0 0,VD VJ au.size,VD VJ 7]) (by simp[results,Tryz.results63,go_sem]) rfl ?_;unfold dB;rw[rG.out];exact⟨_,_,rfl,World.ownsRow_nil _ _ _ _,World.ownsRow_nil _ _ _ _,HU.out⟩
  subst hop;have rG:=aa (show St.dv E au.size au.1.1 0 0 [] [] [] 0=(f,cuts++[d],0,0)by rw[bJ.out,if_pos rfl]);simp only[List.length_nil];go_wp2_with (at_builtin;refine wpList_append_own _ rfl _ _ 42 rfl w.1.size 3 i0 (.int .i64 0) 1 8 Tryz.underlying42 hi hz0 hz1 hz2 rfl (by decide) (.slice fK cuts.length bl) cuts.length (eJ cuts) rfl ?_ _ 1 1 [.int .i64 d] rfl rfl ?_ ?_ (by unfold maxLen;omega) (by omega) ?_ ?_)
  any_goals (first|exact aA (uZ) iQ.out|exact fF _ _ _|(intro u hu';simp at hu';subst hu';rfl)|rfl|omega|(simp;omega))
  intro v' w5 dy eh _;rw[<-dl]at dy;have dO:=aa ((HU.out.alloc _).grown eh (λg hg=>ax iQ.out g hg));have hA:∀ {W:VO} {v:Value},ac wr W->W.grownBy w5 (VF fK cuts.length bl).ownBlock->wr.ownsRow w.1.size 36 3 v f.length (av f)->w5.ownsRow w.1.size 36 3 v f.length (av f):=λhW h5 hv=>(aA hW hv).kept h5 (cR (aA hW hv) (aA hW iQ.out) (by decide))
  have kv:=aa (hA (uZ) eh gK.out);have eI:=aa dy;clear eh dy hA;go_wp2;refine bodyPost_ret (v:=VI #[_,v',VD VJ 0,VD VJ 0]) (by simp[results,Tryz.results63,go_sem];rfl) rfl ?_;unfold dB;rw[rG.out];exact⟨_,_,rfl,kv.out,by simpa using eI.out,dO.out⟩
