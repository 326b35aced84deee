/- The contract of the reference's Decode: what it gives is St.decT of the format's element. -/
import Derived.Test.YthoemdibbldndaaGreatDoorGH
import Derived.Test.YthoemdibbldndaaGreatDoorGD
import Derived.Test.YthoemdibbldndaaGreatDoorRefCheck
set_option linter.all false
set_option maxHeartbeats 0
set_option maxRecDepth 20000
open Go.Value renaming int->Yh,string->Yi,slice->Yj,tuple->Ym
open Go.IntKind renaming i64->Yn
open Go.Obj renaming cells->Yo
namespace Go.Proofs.YthoemdibbldndaaGreatDoor
open Go.RowKit
def Nd(E:List UInt8->St.El):Prop:=∀l k t n,E l=some (k,t,n)->(k=0\/k=1\/k=2\/k=3\/k=4\/k=5)/\1<=n/\n<=l.length/\t.length<=n
def Oh(op:List St.It)(n:Nat):Prop:=∀o∈op,o.2.1.length<=n
def So(w:World)(E:List UInt8->St.El)(raw:ByteArray)(s8 s9 db gw s12 mA:Value)(wr:World):Prop:=
 ∃(a d c:Nat) (f op:List St.It) (cuts:List Nat) (fuel:Nat),gw=Yh Yn a/\s12=Yh Yn d/\mA=Yh Yn c/\a<=raw.size/\raw.size-a<=fuel /\
  wr.ownsRow w.1.size 36 3 s8 f.length (ak f)/\wr.ownsRow w.1.size 36 3 s9 op.length (ak op)/\wr.ownsRow w.1.size 3 1 db cuts.length (eY cuts)/\St.Nm f/\aV f<=a/\f.length<=512/\cuts.length<=1024 /\
  op.length<=cuts.length/\c<=cuts.length/\Oh op raw.size /\
  St.du E raw.size raw.1.1 0 0 [] [] [] 0=St.du E fuel (raw.1.1.drop a) a d f cuts op c/\ac w wr
theorem tY(fmt:Int)(E:List UInt8->St.El)(hE:BM fmt E)(hok:Nd E)(raw:ByteArray)(w:World)(hr:raw.size<=4611686018427387904) :
  Calls Tryz.prog 63 #[Yh Yn fmt,Yi raw] w (fz (St.du E raw.size raw.1.1 0 0 [] [] [] 0) w):=by
 obtain⟨i0,hi,hz0,hz1,hz2⟩:=info_parts fO;obtain⟨j0,ji,jz0,jz1,jz2⟩:=info_parts dH;go_enter Tryz.func63,Tryz.ntmps63;go_wp2;go_loopw [8,9,10,11,12,13] (λs8 s9 db gw s12 mA wr=>So w E raw s8 s9 db gw s12 mA wr) (λ_ _ _ gw _ _ _=>raw.size+1-(intOf gw).toNat)
 case atStart=>exact⟨0,0,0,[],[],[],raw.size,rfl,rfl,rfl,by omega,by omega,World.ownsRow_nil _ _ _ _,World.ownsRow_nil _ _ _ _,World.ownsRow_nil _ _ _ _,St.nQ,by simp[aV],by simp,by simp,by simp,by simp,(λo ho=>by cases ho),by simp,ac.refl _⟩
 case round=>
  obtain⟨a,d,c,f,op,cuts,fuel,rfl,rfl,rfl,ha,hfu,hO8,hO9,hO10,hN,ht,h1,h2,h3,h4,hS,hD,hu⟩:=hrel;have HD:=aa hD;have HU:=aa hu;have lT:=aa hO8;have pI:=aa hO9;have jG:=aa hO10;have HS:=aa hS;have hsz:=hu.size;have HN:=aa hN;clear hN hS
  by_cases hlt:a<raw.size
  ·have h0:=Fa hlt;obtain⟨fuel,rfl⟩:∃m,fuel=m+1:=⟨fuel-1,by omega⟩;obtain⟨x,hx⟩:∃x,raw.extract a raw.size=x:=⟨_,rfl⟩;have hxl:x.1.1=raw.1.1.drop a:=by rw[<-hx,Lib.extract_data,List.take_of_length_le (by simp)]
   have hxs:x.size=raw.size-a:=by rw[<-hx];simp
   have hel:=λW=>hE x W (by omega) (by omega)
   rw[hxl]at hel;have jN:=aa hel;have y1:(a:Int)<=(raw.size:Int):=by omega
   have y2:(a:Int)<(raw.size:Int):=by omega
   clear hel hD hu hE;cases hs:E (raw.1.1.drop a)with
   | none=>
    have hd2:=aa (HD.out.trans (St.j7 fuel a d _ cuts h0 hs));have jY:Hid (∀W,Calls Tryz.prog 104 #[Yh Yn fmt,Yi x] W λe w'=>e=.returned (Ym #[.agg #[Yh Yn 0,Yi ⟨#[]⟩,Yh Yn 0],Yh Yn 0])/\ac W w'):=aa (by have:=jN.out;rw[hs]at this;exact this);clear hs h0 HD jN hxl hO8 hO9 hO10;go_wp2_with (go_at_call 104;refine(jY.out _).mono ?_;rintro e w2 ⟨rfl,hu2⟩);have hu3:=HU.out.trans hu2;refine bodyPost_ret (v:=Ym #[Yj none 0 0,Yj none 0 0,Yh Yn a,Yh Yn 2]) (by simp[results,Tryz.results63,go_sem]) rfl ?_;unfold fz;rw[hd2.out];exact⟨_,_,rfl,World.ownsRow_nil _ _ _ _,World.ownsRow_nil _ _ _ _,uZ⟩
   | some q=>
    obtain⟨k,t,n⟩:=q;obtain⟨hk,gu,fe,htn⟩:=hok _ _ _ _ hs;have pa:a+n<=raw.size:=by simp at fe;omega
    have d0:((n:Int)==0)=false:=by simp;omega
    have jf:(raw.1.1.drop a).drop n=raw.1.1.drop (a+n):=by rw[List.drop_drop]
    have jY:Hid (∀W,Calls Tryz.prog 104 #[Yh Yn fmt,Yi x] W λe w'=>e=.returned (Ym #[.agg #[Yh Yn k,Yi ⟨t.toArray⟩,Yh Yn 0],Yh Yn n])/\ac W w'):=aa (by have:=jN.out;rw[hs]at this;exact this);obtain⟨A8,c8,rfl,_,_,hA8⟩:=aR hO8;obtain⟨A9,c9,rfl,_,_,hA9⟩:=aR hO9;obtain⟨gE,bH,rfl,_,_,hA10⟩:=aR hO10;obtain⟨tb,fx⟩:∃tb:ByteArray,(⟨t.toArray⟩:ByteArray)=tb:=⟨_,rfl⟩;have mX:tb.1.1=t:=by rw[<-fx]
    rw[fx]at jY
    have kQ:∀(i:Int) (W:World) (b:Nat),aH W A8 f->aH W (some ⟨b,0,none⟩) [(k,t,i)]->Calls Tryz.prog 44 #[Yj A8 f.length c8,Yj (some ⟨b,0,none⟩) 1 1] W λe w'=>∃v,e=.returned v/\w'.ownsRow W.1.size 36 3 v (St.aL f (k,t,i)).length (ak (St.aL f (k,t,i)))/\ac W w':=by
     intro i W b h h';have htx:aV (f++[(k,t,i)])<=a+n:=by rw[cw];simp only;omega
     have:=gZ A8 f.length c8 f (some ⟨b,0,none⟩) 1 1 [(k,t,i)] W rfl rfl (λe=>by have:=hA8 e;omega) (λe=>by cases e) h h' (by omega) (by omega)
     rw[show St.bl (f++[(k,t,i)])=St.aL f (k,t,i)by rw[St.eh,HN.out]]at this;exact this
    have hadd:∀i:Int,St.Nm (St.aL f (k,t,i))/\aV (St.aL f (k,t,i))<=a+n/\(St.aL f (k,t,i)).length<=f.length+1:=λi=>⟨St.eH HN.out _,by have:=gW f (k,t,i);simp only at this;omega,(St.gL f (k,t,i)).1⟩
    have pF:=aa kQ;have HAD:=aa hadd;clear kQ hadd hA8 hA9 hA10
    by_cases gU:k=0
    ·subst gU;have hd2:=HD.out.trans (St.lF fuel a d _ cuts h0 hs);rw[jf]at hd2;have dt:=aa hd2;clear hs h0 HD jN hxl hO8 hO9 hO10 hd2 jf fe fx mX pF HAD;go_wp2_with (go_at_call 104;refine(jY.out _).mono ?_;rintro e w2 ⟨rfl,hu2⟩);have hu3:=HU.out.trans hu2;exact⟨⟨a+n,d,c,f,op,cuts,fuel,congrArg (Yh Yn) (by omega),rfl,rfl,pa,by omega,aF (uZ) lT.out,aF (uZ) pI.out,aF (uZ) jG.out,HN.out,by omega,h1,h2,h3,h4,HS.out,dt.out,uZ⟩,by simp[intOf];omega⟩
    have dR:=aa (λ(h:St.stepT op c k t=none)=>HD.out.trans (St.mS fuel a d f cuts h0 hs gU h));have cy:=aa (λ(i:Int) (cK:List St.It) (c':Nat) (h:St.stepT op c k t=some (i,cK,c')) hf=>HD.out.trans (St.j6 fuel a d f cuts h0 hs gU h hf))
    have HST:Hid (∀(i:Int) (cK:List St.It) (c':Nat),St.stepT op c k t=some (i,cK,c')->¬(512<(St.aL f (k,t,i)).length\/1024<=cuts.length)->St.du E raw.size raw.1.1 0 0 [] [] [] 0=St.du E fuel (raw.1.1.drop (a+n)) (a+n) (a+n) (St.aL f (k,t,i)) (cuts++[d]) cK c'):=aa (λi cK c' h hf=>by
     have:=HD.out.trans (St.je fuel a d f cuts h0 hs gU h hf)
     rwa [jf]at this)
    clear hs h0 HD jN hxl hO8 hO9 hO10 jf fe;have hk':(k=1\/k=5)\/k=2\/k=4\/k=3:=by omega
    clear hk;rcases hk' with hk5|rfl|rfl|rfl
    ·have hst:St.stepT op c k t=some (0,op,c):=by unfold St.stepT;rw[if_neg (by omega),if_neg (by omega),if_neg (by omega)]
     have q0:(k==0)=false:=by simp;omega
     have q2:(k==2)=false:=by simp;omega
     have q3:(k==3)=false:=by simp;omega
     have q4:(k==4)=false:=by simp;omega
     clear hk5 gU;have ee:=aa (pF.out 0);have hadd:=HAD.out 0;have kU:=aa (cy.out _ _ _ hst);have dy:=aa (HST.out _ _ _ hst);generalize hg:St.aL f (k,t,0)=g at *;obtain⟨tM,hgt,hgl⟩:=hadd;have jP:=aa tM;clear hg tM hst HAD pF cy HST dR;go_wp2_with fail;refine(jY.out _).mono ?_;rintro e w2 ⟨rfl,hu2⟩;have gm:=aa (show ac wr (w2.alloc (Yo #[Yh Yn k,Yi tb,Yh Yn 0] 36))from hu2.alloc _);have jj:=aa (bJ w2 (Yo #[Yh Yn k,Yi tb,Yh Yn 0] 36) w2.1.size rfl);clear hu2;go_wp2_with fail;have kf:(w2.alloc (Yo #[Yh Yn k,Yi tb,Yh Yn 0] 36)).1.size=w2.1.size+1:=by simp
     generalize w2.alloc (Yo #[Yh Yn k,Yi tb,Yh Yn 0] 36)=W9 at *;have c0:W9.cell? ⟨w2.1.size,0,none⟩=some (Yh Yn k):=aj jj.out 0;have vz:=ae jj.out;refine(ee.out _ _ ?_ ?_).mono ?_
     ·exact((aW lT.out rfl).ai gm.out).ai ((ac.refl _).alloc _)
     ·rw[<-mX];exact eg _ _ _ _ _ (by rw[<-kf];simp) (by rw[<-kf];simp) (by rw[<-kf,bn];simp) (by rw[<-kf];simp)
     clear kf;rintro e w3 ⟨v3,rfl,cR,hu3⟩;obtain⟨A3,c3,rfl,_,_,_⟩:=aR cR;have bf:ac wr w3:=gm.out.trans (ac.trans (uZ) hu3);have bg:=HU.out.trans bf
     by_cases hbad:512<g.length\/1024<=cuts.length
     ·have dt:=aa (kU.out hbad);have hb':(512:Int)<(g.length:Int)\/(¬(512:Int)<(g.length:Int)/\(1024:Int)<=(cuts.length:Int)):=by omega
      clear kU dy hbad cR hu3 bf c0;rcases hb' with z5|⟨z5,z6⟩
      all_goals
       go_wp2;refine bodyPost_ret (v:=Ym #[Yj none 0 0,Yj none 0 0,Yh Yn a,Yh Yn 3]) (by simp[results,Tryz.results63,go_sem]) rfl ?_;unfold fz;rw[dt.out];exact⟨_,_,rfl,World.ownsRow_nil _ _ _ _,World.ownsRow_nil _ _ _ _,bg⟩
     have z5:¬((512:Int)<(g.length:Int)):=by omega
     have z6:¬((1024:Int)<=(cuts.length:Int)):=by omega
     have dt:=aa (dy.out hbad);clear kU dy hbad;have hs4:=bf.size;have dh:=aa (HU.out.trans bf);have gB:=aa (aF bf jG.out);have qp:=aa (aF bf pI.out);have fo:=aa (cH (base':=w.1.size) cR (by have:=gm.out.size;simp;omega));have jI:∀x,(Yj A3 g.length c3).ownBlock=some x->wr.1.size<=x:=λx hx=>by have:=aB cR x hx;have:=gm.out.size;simp at *;omega
     have hb3:=(hu3.below.block w2.1.size (by simp;omega)).trans ((gi _ _ _ vz).trans jj.out);have hc:w3.cell? ⟨w2.1.size,0,none⟩=some (.int .i64 k):=aj hb3 0;have hc1:w3.cell? ⟨w2.1.size,1,none⟩=some (.string tb):=aj hb3 1;have hc2:w3.cell? ⟨w2.1.size,2,none⟩=some (.int .i64 0):=aj hb3 2;haveI:af w2.1.size w3:=af.of (ae hb3);have BU:=aa jI;clear cR hu3 jI hb3 c0 jj;go_wp2_with (at_builtin;refine wpList_append_own _ rfl _ _ 42 rfl w.1.size 3 i0 (.int .i64 0) 1 8 Tryz.underlying42 hi hz0 hz1 hz2 rfl (by decide) (.slice gE cuts.length bH) cuts.length (eY cuts) rfl ?_ _ 1 1 [.int .i64 d] rfl rfl ?_ ?_ (by unfold maxLen;omega) (by omega) ?_ ?_)
     ·exact aF (uZ) gB.out
     ·exact gy _ _ _
     ·intro u hu';simp at hu';subst hu';rfl
     ·have:=dh.out.size;simp;omega
     intro v' w5 dC fc _;rw[<-dB]at dC;have eu:=aa ((dh.out.alloc _).grown fc (λg hg=>aB gB.out g hg));have hA:∀ {W:World} {v:Value} {n:Nat} {xs:List Value},ac w3 W->W.grownBy w5 (Yj gE cuts.length bH).ownBlock->w3.ownsRow w.1.size 36 3 v n xs->w5.ownsRow w.1.size 36 3 v n xs:=λhW h5 hv=>(aF hW hv).kept h5 (da (aF hW hv) (aF hW gB.out) (by decide))
     have mQ:=aa (hA (uZ) fc fo.out);have rB:=aa (hA (uZ) fc qp.out);have eW:=aa dC;clear fc dC hA;go_wp2;exact⟨⟨a+n,a+n,c,g,op,cuts++[d],fuel,congrArg (Yh Yn) (by omega),congrArg (Yh Yn) (by omega),rfl,pa,by omega,mQ.out,by simpa using rB.out,by simpa using eW.out,jP.out,by omega,by omega,by simp;omega,by simp;omega,by simp;omega,HS.out,dt.out,eu.out⟩,by simp[intOf];omega⟩
    ·have hst:St.stepT op c 2 t=some (((c:Int)+1),op++[(2,t,(c:Int)+1)],c+1):=rfl;have ee:=aa (pF.out ((c:Int)+1));have hadd:=HAD.out ((c:Int)+1);have kU:=aa (cy.out _ _ _ hst);have dy:=aa (HST.out _ _ _ hst);generalize hg:St.aL f (2,t,((c:Int)+1))=g at *;obtain⟨tM,hgt,hgl⟩:=hadd;have jP:=aa tM;clear hg tM hst HAD pF cy HST dR;go_wp2_with fail;refine(jY.out _).mono ?_;rintro e w2 ⟨rfl,hu2⟩;have gm:=aa (show ac wr (w2.alloc (Yo #[Yh Yn 2,Yi tb,Yh Yn ((c:Int)+1)] 36))from hu2.alloc _);have jj:=aa (bJ w2 (Yo #[Yh Yn 2,Yi tb,Yh Yn ((c:Int)+1)] 36) w2.1.size rfl);clear hu2;go_wp2_with fail;have kf:(w2.alloc (Yo #[Yh Yn 2,Yi tb,Yh Yn ((c:Int)+1)] 36)).1.size=w2.1.size+1:=by simp
     generalize w2.alloc (Yo #[Yh Yn 2,Yi tb,Yh Yn ((c:Int)+1)] 36)=W9 at *;have c0:W9.cell? ⟨w2.1.size,0,none⟩=some (Yh Yn 2):=aj jj.out 0;have vz:=ae jj.out;refine(ee.out _ _ ?_ ?_).mono ?_
     ·exact((aW lT.out rfl).ai gm.out).ai ((ac.refl _).alloc _)
     ·rw[<-mX];exact eg _ _ _ _ _ (by rw[<-kf];simp) (by rw[<-kf];simp) (by rw[<-kf,bn];simp) (by rw[<-kf];simp)
     clear kf;rintro e w3 ⟨v3,rfl,cR,hu3⟩;obtain⟨A3,c3,rfl,_,_,_⟩:=aR cR;have bf:ac wr w3:=gm.out.trans (ac.trans (uZ) hu3);have bg:=HU.out.trans bf
     by_cases hbad:512<g.length\/1024<=cuts.length
     ·have dt:=aa (kU.out hbad);have hb':(512:Int)<(g.length:Int)\/(¬(512:Int)<(g.length:Int)/\(1024:Int)<=(cuts.length:Int)):=by omega
      clear kU dy hbad cR hu3 bf c0;rcases hb' with z5|⟨z5,z6⟩
      all_goals
       go_wp2;refine bodyPost_ret (v:=Ym #[Yj none 0 0,Yj none 0 0,Yh Yn a,Yh Yn 3]) (by simp[results,Tryz.results63,go_sem]) rfl ?_;unfold fz;rw[dt.out];exact⟨_,_,rfl,World.ownsRow_nil _ _ _ _,World.ownsRow_nil _ _ _ _,bg⟩
     have z5:¬((512:Int)<(g.length:Int)):=by omega
     have z6:¬((1024:Int)<=(cuts.length:Int)):=by omega
     have dt:=aa (dy.out hbad);clear kU dy hbad;have hs4:=bf.size;have dh:=aa (HU.out.trans bf);have gB:=aa (aF bf jG.out);have qp:=aa (aF bf pI.out);have fo:=aa (cH (base':=w.1.size) cR (by have:=gm.out.size;simp;omega));have jI:∀x,(Yj A3 g.length c3).ownBlock=some x->wr.1.size<=x:=λx hx=>by have:=aB cR x hx;have:=gm.out.size;simp at *;omega
     have hb3:=(hu3.below.block w2.1.size (by simp;omega)).trans ((gi _ _ _ vz).trans jj.out);have hc:w3.cell? ⟨w2.1.size,0,none⟩=some (.int .i64 2):=aj hb3 0;have hc1:w3.cell? ⟨w2.1.size,1,none⟩=some (.string tb):=aj hb3 1;have hc2:w3.cell? ⟨w2.1.size,2,none⟩=some (.int .i64 ((c:Int)+1)):=aj hb3 2;haveI:af w2.1.size w3:=af.of (ae hb3);have BU:=aa jI;clear cR hu3 jI hb3 c0 jj;go_wp2_with (at_builtin;refine uo rfl _ _ 37 rfl w.1.size 36 j0 (.agg #[.int .i64 0,.string ⟨#[]⟩,.int .i64 0]) 3 32 Tryz.underlying37 ji jz0 jz1 jz2 rfl (by decide) (.slice A9 op.length c9) op.length (ak op) rfl ?_ _ 1 1 [.int .i64 2,.string tb,.int .i64 ((c:Int)+1)] rfl rfl ?_ (cL _ _ _) (by unfold maxLen;omega) (by omega) ?_ ?_)
     ·exact qp.out.alloc _
     ·exact dW _ _ _ _ _ _ rfl
     ·have:=dh.out.size;simp;omega
     intro v9 w4 sO xx U0;have J2:ac w3 (w3.alloc (Yo #[Yh Yn 2,Yi tb,Yh Yn ((c:Int)+1)] 36)):=uZ
     have UH:=aa (show w4.ownsRow w.1.size 36 3 v9 (op++[(2,t,(c:Int)+1)]).length (ak (op++[(2,t,(c:Int)+1)]))by
      rw[bD,List.length_append,List.length_singleton,<-mX];simp only[bn];exact sO)
     have hne:(Yj A3 g.length c3).ownBlock=none\/(Yj A3 g.length c3).ownBlock≠(Yj A9 op.length c9).ownBlock:=by
      cases hb:(Yj A3 g.length c3).ownBlock with
      | none=>exact .inl rfl
      | some x=>
       refine .inr λe=>?_
       have:=BU.out x hb
       have:=(pI.out.lt x e.symm).2
       omega
     have UG:=aa ((aF J2 fo.out).kept xx hne);have Gk:=aa ((aF J2 gB.out).kept xx (da (aF J2 gB.out) (aF J2 qp.out) (by decide)));have Qe:=aa ((dh.out.alloc _).grown xx (λg hg=>aB qp.out g hg));obtain⟨Xt,c9',rfl,_⟩:=aJ sO;clear xx sO U0 hne J2 hc hc1 hc2 dh fo gB qp BU;go_wp2_with (at_builtin;refine wpList_append_own _ rfl _ _ 42 rfl w.1.size 3 i0 (.int .i64 0) 1 8 Tryz.underlying42 hi hz0 hz1 hz2 rfl (by decide) (.slice gE cuts.length bH) cuts.length (eY cuts) rfl ?_ _ 1 1 [.int .i64 d] rfl rfl ?_ ?_ (by unfold maxLen;omega) (by omega) ?_ ?_)
     ·exact aF (uZ) Gk.out
     ·exact gy _ _ _
     ·intro u hu';simp at hu';subst hu';rfl
     ·have:=Qe.out.size;simp;omega
     intro v' w5 dC fc _;rw[<-dB]at dC;have eu:=aa ((Qe.out.alloc _).grown fc (λg hg=>aB Gk.out g hg));have hA:∀ {W:World} {v:Value} {n:Nat} {xs:List Value},ac w4 W->W.grownBy w5 (Yj gE cuts.length bH).ownBlock->w4.ownsRow w.1.size 36 3 v n xs->w5.ownsRow w.1.size 36 3 v n xs:=λhW h5 hv=>(aF hW hv).kept h5 (da (aF hW hv) (aF hW Gk.out) (by decide))
     have mQ:=aa (hA (uZ) fc UG.out);have rB:=aa (hA (uZ) fc UH.out);have eW:=aa dC;clear fc dC hA;go_wp2;exact⟨⟨a+n,a+n,c+1,g,op++[(2,t,(c:Int)+1)],cuts++[d],fuel,congrArg (Yh Yn) (by omega),congrArg (Yh Yn) (by omega),congrArg (Yh Yn) (by omega),pa,by omega,mQ.out,by simpa using rB.out,by simpa using eW.out,jP.out,by omega,by omega,by simp;omega,by simp;omega,by simp;omega,(λo ho=>by rcases List.mem_append.1 ho with ho|ho;exact HS.out o ho;simp at ho;subst ho;show t.length<=_;omega),dt.out,eu.out⟩,by simp[intOf];omega⟩
    ·have hst:St.stepT op c 4 t=some (((c:Int)+1),op,c+1):=rfl;have ee:=aa (pF.out ((c:Int)+1));have hadd:=HAD.out ((c:Int)+1);have kU:=aa (cy.out _ _ _ hst);have dy:=aa (HST.out _ _ _ hst);generalize hg:St.aL f (4,t,((c:Int)+1))=g at *;obtain⟨tM,hgt,hgl⟩:=hadd;have jP:=aa tM;clear hg tM hst HAD pF cy HST dR;go_wp2_with fail;refine(jY.out _).mono ?_;rintro e w2 ⟨rfl,hu2⟩;have gm:=aa (show ac wr (w2.alloc (Yo #[Yh Yn 4,Yi tb,Yh Yn ((c:Int)+1)] 36))from hu2.alloc _);have jj:=aa (bJ w2 (Yo #[Yh Yn 4,Yi tb,Yh Yn ((c:Int)+1)] 36) w2.1.size rfl);clear hu2;go_wp2_with fail;have kf:(w2.alloc (Yo #[Yh Yn 4,Yi tb,Yh Yn ((c:Int)+1)] 36)).1.size=w2.1.size+1:=by simp
     generalize w2.alloc (Yo #[Yh Yn 4,Yi tb,Yh Yn ((c:Int)+1)] 36)=W9 at *;have c0:W9.cell? ⟨w2.1.size,0,none⟩=some (Yh Yn 4):=aj jj.out 0;have vz:=ae jj.out;refine(ee.out _ _ ?_ ?_).mono ?_
     ·exact((aW lT.out rfl).ai gm.out).ai ((ac.refl _).alloc _)
     ·rw[<-mX];exact eg _ _ _ _ _ (by rw[<-kf];simp) (by rw[<-kf];simp) (by rw[<-kf,bn];simp) (by rw[<-kf];simp)
     clear kf;rintro e w3 ⟨v3,rfl,cR,hu3⟩;obtain⟨A3,c3,rfl,_,_,_⟩:=aR cR;have bf:ac wr w3:=gm.out.trans (ac.trans (uZ) hu3);have bg:=HU.out.trans bf
     by_cases hbad:512<g.length\/1024<=cuts.length
     ·have dt:=aa (kU.out hbad);have hb':(512:Int)<(g.length:Int)\/(¬(512:Int)<(g.length:Int)/\(1024:Int)<=(cuts.length:Int)):=by omega
      clear kU dy hbad cR hu3 bf c0;rcases hb' with z5|⟨z5,z6⟩
      all_goals
       go_wp2;refine bodyPost_ret (v:=Ym #[Yj none 0 0,Yj none 0 0,Yh Yn a,Yh Yn 3]) (by simp[results,Tryz.results63,go_sem]) rfl ?_;unfold fz;rw[dt.out];exact⟨_,_,rfl,World.ownsRow_nil _ _ _ _,World.ownsRow_nil _ _ _ _,bg⟩
     have z5:¬((512:Int)<(g.length:Int)):=by omega
     have z6:¬((1024:Int)<=(cuts.length:Int)):=by omega
     have dt:=aa (dy.out hbad);clear kU dy hbad;have hs4:=bf.size;have dh:=aa (HU.out.trans bf);have gB:=aa (aF bf jG.out);have qp:=aa (aF bf pI.out);have fo:=aa (cH (base':=w.1.size) cR (by have:=gm.out.size;simp;omega));have jI:∀x,(Yj A3 g.length c3).ownBlock=some x->wr.1.size<=x:=λx hx=>by have:=aB cR x hx;have:=gm.out.size;simp at *;omega
     have hb3:=(hu3.below.block w2.1.size (by simp;omega)).trans ((gi _ _ _ vz).trans jj.out);have hc:w3.cell? ⟨w2.1.size,0,none⟩=some (.int .i64 4):=aj hb3 0;have hc1:w3.cell? ⟨w2.1.size,1,none⟩=some (.string tb):=aj hb3 1;have hc2:w3.cell? ⟨w2.1.size,2,none⟩=some (.int .i64 ((c:Int)+1)):=aj hb3 2;haveI:af w2.1.size w3:=af.of (ae hb3);have BU:=aa jI;clear cR hu3 jI hb3 c0 jj;go_wp2_with (at_builtin;refine wpList_append_own _ rfl _ _ 42 rfl w.1.size 3 i0 (.int .i64 0) 1 8 Tryz.underlying42 hi hz0 hz1 hz2 rfl (by decide) (.slice gE cuts.length bH) cuts.length (eY cuts) rfl ?_ _ 1 1 [.int .i64 d] rfl rfl ?_ ?_ (by unfold maxLen;omega) (by omega) ?_ ?_)
     ·exact aF (uZ) gB.out
     ·exact gy _ _ _
     ·intro u hu';simp at hu';subst hu';rfl
     ·have:=dh.out.size;simp;omega
     intro v' w5 dC fc _;rw[<-dB]at dC;have eu:=aa ((dh.out.alloc _).grown fc (λg hg=>aB gB.out g hg));have hA:∀ {W:World} {v:Value} {n:Nat} {xs:List Value},ac w3 W->W.grownBy w5 (Yj gE cuts.length bH).ownBlock->w3.ownsRow w.1.size 36 3 v n xs->w5.ownsRow w.1.size 36 3 v n xs:=λhW h5 hv=>(aF hW hv).kept h5 (da (aF hW hv) (aF hW gB.out) (by decide))
     have mQ:=aa (hA (uZ) fc fo.out);have rB:=aa (hA (uZ) fc qp.out);have eW:=aa dC;clear fc dC hA;go_wp2;exact⟨⟨a+n,a+n,c+1,g,op,cuts++[d],fuel,congrArg (Yh Yn) (by omega),congrArg (Yh Yn) (by omega),congrArg (Yh Yn) (by omega),pa,by omega,mQ.out,by simpa using rB.out,by simpa using eW.out,jP.out,by omega,by omega,by simp;omega,by simp;omega,by simp;omega,HS.out,dt.out,eu.out⟩,by simp[intOf];omega⟩
    rcases St.cT op with rfl|⟨o1,o,rfl⟩
    ·have dt:=aa (dR.out rfl);simp only[List.length_nil];clear dR cy HST pF HAD;go_wp2_with fail;refine(jY.out _).mono ?_;rintro e w2 ⟨rfl,hu2⟩;have yM:=aa hu2;clear hu2;go_wp2_with fail
     first|refine aP (by kernel_rfl) (by kernel_rfl) ?_|refine aS (by kernel_rfl) (by kernel_rfl) ?_
     repeat (go_big_quiet_step (first|(fail)))
     refine wpQuiet_nil ?_;rintro _ ⟨X,rfl⟩;have hu3:ac w (under (w2.alloc (Yo #[Yh Yn 3,Yi tb,Yh Yn 0] 36)) X):=HU.out.trans (yM.out.trans uZ);clear yM;go_wp2;refine bodyPost_ret (v:=Ym #[Yj none 0 0,Yj none 0 0,Yh Yn a,Yh Yn 7]) (by simp[results,Tryz.results63,go_sem]) rfl ?_;unfold fz;rw[dt.out];exact⟨_,_,rfl,World.ownsRow_nil _ _ _ _,World.ownsRow_nil _ _ _ _,hu3⟩
    obtain⟨m,hm⟩:∃m,o1.length=m:=⟨_,rfl⟩;have hol:(o1++[o]).length=m+1:=by simp[hm]
    have cR:=pI.out;rw[hol]at cR;obtain⟨gb,rfl,ka,hgl',hgc⟩:=dU cR (by omega);have CY:(o1++[o])[m]?=some o:=by rw[<-hm];simp
    have hcs:=kF (o1++[o]) m (by rw[hol];omega);have Am:(o1++[o])[m]'(by rw[hol];omega)=o:=Option.some.inj ((List.getElem?_eq_getElem (by rw[hol];omega)).symm.trans CY);rw[Am]at hcs;have i1:=hgc _ _ hcs.2.1;have i2:=hgc _ _ hcs.2.2;have Rm:o.2.1.length<=4611686018427387904:=by have:=HS.out o (by simp);omega
    obtain⟨ok,ot,oi⟩:=o;simp only at i1 i2 Rm;haveI:af gb wr:=af.of hgl';have z0:¬((m:Int)<0):=by omega
    have z3:(m:Int)<((m+1:Nat):Int):=by omega
    have CV:m<=2000:=by rw[hol]at h3;omega
    obtain⟨Xe,hc9b⟩:m+1<=c9/\c9<=maxLen:=by
     obtain⟨_,_,e,ha,hb⟩:=aJ cR;simp only[Value.slice.injEq]at e;obtain⟨_,_,rfl⟩:=e;exact⟨ha,hb⟩
    have IV:=aa hol;have bt:=aa (λW=>kL ot W (by omega));have HM:=aa hm
    have UI:=aa (show wr.ownsRow w.1.size 36 3 (Yj (some ⟨gb,0,none⟩) o1.length c9) o1.length (ak o1)by
     have hsh:=uX cR m (by omega);have Hf:(ak (o1++[(ok,ot,oi)])).take (m*3)=ak o1:=by rw[bD,List.take_left' (by rw[j5,hm])]
     rw[Hf]at hsh
     rw[hm];exact hsh)
    rw[hol]at h3;simp only[hol];clear hcs hgc CY Am hol cR hm;obtain⟨sb,n5⟩:∃sb:ByteArray,(⟨ot.toArray⟩:ByteArray)=sb:=⟨_,rfl⟩;obtain⟨nb,hnb⟩:∃nb:ByteArray,(⟨(St.nameOf ot).toArray⟩:ByteArray)=nb:=⟨_,rfl⟩;rw[n5,hnb]at bt;rw[n5]at i1;have hnl:nb.1.1=St.nameOf ot:=by rw[<-hnb]
    clear n5 hnb;obtain⟨bq,hq⟩:∃bq,(nb.toList != tb.toList)=bq:=⟨_,rfl⟩
    have Hg:St.stepT (o1++[(ok,ot,oi)]) c 3 t=if bq then none else some (oi,o1,c):=by
     unfold St.stepT;simp only[if_true,List.getLast?_append,List.getLast?_singleton,Option.some_or,List.dropLast_concat];cases bq
     ·rw[bne_eq_false_iff_eq,Lib.toList_data,Lib.toList_data,hnl,mX]at hq;rw[if_pos hq];rfl
     rw[bne_iff_ne,Lib.toList_data,Lib.toList_data,hnl,mX]at hq;rw[if_neg hq];rfl
    clear hnl;cases bq;rotate_left 1
    ·have dt:=aa (dR.out Hg);clear Hg dR cy HST pF HAD;have Rr:(nb.toList==tb.toList)=false:=by simpa using hq
     have JZ:(!(nb.toList==tb.toList))=true:=hq;go_wp2_with fail;refine(jY.out _).mono ?_;rintro e w2 ⟨rfl,hu2⟩;have RB:wr.1.size<=w2.1.size:=hu2.size;have l1:w2.cell? ⟨gb,m*3+1,none⟩=some (Yi sb):=(hu2.cell (p:=⟨gb,m*3+1,none⟩) hgl').trans i1;haveI:af gb w2:=af.of (Nat.lt_of_lt_of_le hgl' hu2.size);have yM:=aa hu2;clear hu2;go_wp2_with fail;have Gb:(decide ((m:Int)<0))=false:=decide_eq_false (by omega)
     first|refine aP (by kernel_rfl) (by kernel_rfl) ?_|refine aS (by kernel_rfl) (by kernel_rfl) ?_
     repeat (go_big_quiet_step (first|(go_at_call 105;exact Calls.eE (bt.out _))))
     refine wpQuiet_nil ?_;rintro _ ⟨X,rfl⟩;clear Gb;have hI:ac (w2.alloc (Yo #[Yh Yn 3,Yi tb,Yh Yn 0] 36)) (under (w2.alloc (Yo #[Yh Yn 3,Yi tb,Yh Yn 0] 36)) X):=⟨X,rfl⟩;generalize under (w2.alloc (Yo #[Yh Yn 3,Yi tb,Yh Yn 0] 36)) X=W at *;have sC:=aa ((yM.out.alloc _).trans hI);have E3:=aa (HU.out.trans sC.out);have vg:=aa ((hI.below.block w2.1.size (by simp)).trans (bJ w2 (Yo #[Yh Yn 3,Yi tb,Yh Yn 0] 36) w2.1.size rfl));clear hI;go_wp2;refine bodyPost_ret (v:=Ym #[Yj none 0 0,Yj none 0 0,Yh Yn a,Yh Yn 7]) (by simp[results,Tryz.results63,go_sem]) rfl ?_;unfold fz;rw[dt.out];exact⟨_,_,rfl,World.ownsRow_nil _ _ _ _,World.ownsRow_nil _ _ _ _,E3.out⟩
    have hst:St.stepT (o1++[(ok,ot,oi)]) c 3 t=some (oi,o1,c):=Hg;have Rr:(nb.toList==tb.toList)=true:=by simpa using hq
    have JZ:(!(nb.toList==tb.toList))=false:=hq;clear Hg;have ee:=aa (pF.out oi);have hadd:=HAD.out oi;have kU:=aa (cy.out _ _ _ hst);have dy:=aa (HST.out _ _ _ hst);generalize hg:St.aL f (3,t,oi)=g at *;obtain⟨tM,hgt,hgl⟩:=hadd;have jP:=aa tM;clear hg tM hst HAD pF cy HST dR;go_wp2_with fail;refine(jY.out _).mono ?_;rintro e w2 ⟨rfl,hu2⟩;have RB:wr.1.size<=w2.1.size:=hu2.size;have l1:w2.cell? ⟨gb,m*3+1,none⟩=some (Yi sb):=(hu2.cell (p:=⟨gb,m*3+1,none⟩) hgl').trans i1;haveI:af gb w2:=af.of (Nat.lt_of_lt_of_le hgl' hu2.size);have yM:=aa hu2;clear hu2;go_wp2_with fail;have Gb:(decide ((m:Int)<0))=false:=decide_eq_false (by omega)
    first|refine aP (by kernel_rfl) (by kernel_rfl) ?_|refine aS (by kernel_rfl) (by kernel_rfl) ?_
    repeat (go_big_quiet_step (first|(go_at_call 105;exact Calls.eE (bt.out _))))
    refine wpQuiet_nil ?_;rintro _ ⟨X,rfl⟩;clear Gb;have hI:ac (w2.alloc (Yo #[Yh Yn 3,Yi tb,Yh Yn 0] 36)) (under (w2.alloc (Yo #[Yh Yn 3,Yi tb,Yh Yn 0] 36)) X):=⟨X,rfl⟩;generalize under (w2.alloc (Yo #[Yh Yn 3,Yi tb,Yh Yn 0] 36)) X=W at *;have sC:=aa ((yM.out.alloc _).trans hI);have E3:=aa (HU.out.trans sC.out);have vg:=aa ((hI.below.block w2.1.size (by simp)).trans (bJ w2 (Yo #[Yh Yn 3,Yi tb,Yh Yn 0] 36) w2.1.size rfl));clear hI;have q2:W.cell? ⟨gb,m*3+2,none⟩=some (Yh Yn oi):=(sC.out.cell (p:=⟨gb,m*3+2,none⟩) hgl').trans i2;have x0:W.cell? ⟨w2.1.size,0,none⟩=some (Yh Yn 3):=aj vg.out 0;have x1:W.cell? ⟨w2.1.size,1,none⟩=some (Yi tb):=aj vg.out 1;have x2:W.cell? ⟨w2.1.size,2,none⟩=some (Yh Yn 0):=aj vg.out 2;have Uq:W.frozen? ⟨w2.1.size,2,none⟩=false:=bz vg.out 2;haveI:af w2.1.size W:=af.of (ae vg.out);haveI:af gb W:=af.of (Nat.lt_of_lt_of_le hgl' sC.out.size);have gm:=aa (sC.out.setCell (p:=⟨w2.1.size,2,none⟩) RB (Yh Yn oi));have jj:=aa (heap_setCell_same _ _ 2 _ _ (Yh Yn oi) vg.out);go_wp2_with fail;have kf:(W.setCell ⟨w2.1.size,2,none⟩ (Yh Yn oi)).1.size=W.1.size:=by simp
    generalize W.setCell ⟨w2.1.size,2,none⟩ (Yh Yn oi)=W9 at *;have c0:W9.cell? ⟨w2.1.size,0,none⟩=some (Yh Yn 3):=aj jj.out 0;have vz:=ae jj.out;refine(ee.out _ _ ?_ ?_).mono ?_
    ·exact((aW lT.out rfl).ai gm.out).ai ((ac.refl _).alloc _)
    ·rw[<-mX];exact eg _ _ _ _ _ (by rw[<-kf];simp) (by rw[<-kf];simp) (by rw[<-kf,bn];simp) (by rw[<-kf];simp)
    clear kf;rintro e w3 ⟨v3,rfl,cR,hu3⟩;obtain⟨A3,c3,rfl,_,_,_⟩:=aR cR;have bf:ac wr w3:=gm.out.trans (ac.trans (uZ) hu3);have bg:=HU.out.trans bf
    by_cases hbad:512<g.length\/1024<=cuts.length
    ·have dt:=aa (kU.out hbad);have hb':(512:Int)<(g.length:Int)\/(¬(512:Int)<(g.length:Int)/\(1024:Int)<=(cuts.length:Int)):=by omega
     clear kU dy hbad cR hu3 bf c0;rcases hb' with z5|⟨z5,z6⟩
     all_goals
      go_wp2;refine bodyPost_ret (v:=Ym #[Yj none 0 0,Yj none 0 0,Yh Yn a,Yh Yn 3]) (by simp[results,Tryz.results63,go_sem]) rfl ?_;unfold fz;rw[dt.out];exact⟨_,_,rfl,World.ownsRow_nil _ _ _ _,World.ownsRow_nil _ _ _ _,bg⟩
    have z5:¬((512:Int)<(g.length:Int)):=by omega
    have z6:¬((1024:Int)<=(cuts.length:Int)):=by omega
    have dt:=aa (dy.out hbad);clear kU dy hbad;have hs4:=bf.size;have dh:=aa (HU.out.trans bf);have gB:=aa (aF bf jG.out);have qp:=aa (aF bf UI.out);have fo:=aa (cH (base':=w.1.size) cR (by have:=gm.out.size;simp;omega));have jI:∀x,(Yj A3 g.length c3).ownBlock=some x->wr.1.size<=x:=λx hx=>by have:=aB cR x hx;have:=gm.out.size;simp at *;omega
    have hb3:=(hu3.below.block w2.1.size (by simp;omega)).trans ((gi _ _ _ vz).trans jj.out);have hc:w3.cell? ⟨w2.1.size,0,none⟩=some (.int .i64 3):=aj hb3 0;have hc1:w3.cell? ⟨w2.1.size,1,none⟩=some (.string tb):=aj hb3 1;have hc2:w3.cell? ⟨w2.1.size,2,none⟩=some (.int .i64 oi):=aj hb3 2;haveI:af w2.1.size w3:=af.of (ae hb3);have BU:=aa jI;clear cR hu3 jI hb3 c0 jj;go_wp2_with (at_builtin;refine wpList_append_own _ rfl _ _ 42 rfl w.1.size 3 i0 (.int .i64 0) 1 8 Tryz.underlying42 hi hz0 hz1 hz2 rfl (by decide) (.slice gE cuts.length bH) cuts.length (eY cuts) rfl ?_ _ 1 1 [.int .i64 d] rfl rfl ?_ ?_ (by unfold maxLen;omega) (by omega) ?_ ?_)
    ·exact aF (uZ) gB.out
    ·exact gy _ _ _
    ·intro u hu';simp at hu';subst hu';rfl
    ·have:=dh.out.size;simp;omega
    intro v' w5 dC fc _;rw[<-dB]at dC;have eu:=aa ((dh.out.alloc _).grown fc (λg hg=>aB gB.out g hg));have hA:∀ {W:World} {v:Value} {n:Nat} {xs:List Value},ac w3 W->W.grownBy w5 (Yj gE cuts.length bH).ownBlock->w3.ownsRow w.1.size 36 3 v n xs->w5.ownsRow w.1.size 36 3 v n xs:=λhW h5 hv=>(aF hW hv).kept h5 (da (aF hW hv) (aF hW gB.out) (by decide))
    have mQ:=aa (hA (uZ) fc fo.out);have rB:=aa (hA (uZ) fc qp.out);have eW:=aa dC;clear fc dC hA;go_wp2;have hm':=HM.out;subst hm';exact⟨⟨a+n,a+n,c,g,o1,cuts++[d],fuel,congrArg (Yh Yn) (by omega),congrArg (Yh Yn) (by omega),rfl,pa,by omega,mQ.out,by simpa using rB.out,by simpa using eW.out,jP.out,by omega,by omega,by simp;omega,by simp;omega,by simp;omega,(λo ho=>HS.out o (by simp[ho])),dt.out,eu.out⟩,by simp[intOf];omega⟩
  have xo:a=raw.size:=by omega
  subst xo;have hnil:raw.1.1.drop raw.size=[]:=List.drop_of_length_le (by simp);have hd2:=HD.out;rw[hnil,St.gf]at hd2;unfold St.jH at hd2;have dt:=aa hd2;obtain⟨A9,c9,rfl,_,_,hA9⟩:=aR hO9;obtain⟨gE,bH,rfl,_,_,hA10⟩:=aR hO10;have kS:=HU.out.size;clear hlt hD HD hu hnil hd2 hO8 hO9 hO10
  by_cases hop:op=[]
  rotate_left 1
  ·have z1:(0:Int)<(op.length:Int):=by have:=List.length_pos_iff.2 hop;omega
   have wA:=aa (show St.du E raw.size raw.1.1 0 0 [] [] [] 0=([],[],raw.size,7)by rw[dt.out,if_neg hop]);clear hop;go_wp2;refine bodyPost_ret (v:=Ym #[Yj none 0 0,Yj none 0 0,Yh Yn raw.size,Yh Yn 7]) (by simp[results,Tryz.results63,go_sem]) rfl ?_;unfold fz;rw[wA.out];exact⟨_,_,rfl,World.ownsRow_nil _ _ _ _,World.ownsRow_nil _ _ _ _,HU.out⟩
  subst hop;have wA:=aa (show St.du E raw.size raw.1.1 0 0 [] [] [] 0=(f,cuts++[d],0,0)by rw[dt.out,if_pos rfl]);simp only[List.length_nil];go_wp2_with (at_builtin;refine wpList_append_own _ rfl _ _ 42 rfl w.1.size 3 i0 (.int .i64 0) 1 8 Tryz.underlying42 hi hz0 hz1 hz2 rfl (by decide) (.slice gE cuts.length bH) cuts.length (eY cuts) rfl ?_ _ 1 1 [.int .i64 d] rfl rfl ?_ ?_ (by unfold maxLen;omega) (by omega) ?_ ?_)
  any_goals (first|exact aF (uZ) jG.out|exact gy _ _ _|(intro u hu';simp at hu';subst hu';rfl)|rfl|omega|(simp;omega))
  intro v' w5 dC fc _;rw[<-dB]at dC;have eu:=aa ((HU.out.alloc _).grown fc (λg hg=>aB jG.out g hg));have hA:∀ {W:World} {v:Value},ac wr W->W.grownBy w5 (Yj gE cuts.length bH).ownBlock->wr.ownsRow w.1.size 36 3 v f.length (ak f)->w5.ownsRow w.1.size 36 3 v f.length (ak f):=λhW h5 hv=>(aF hW hv).kept h5 (da (aF hW hv) (aF hW jG.out) (by decide))
  have mQ:=aa (hA (uZ) fc lT.out);have eW:=aa dC;clear fc dC hA;go_wp2;refine bodyPost_ret (v:=Ym #[_,v',Yh Yn 0,Yh Yn 0]) (by simp[results,Tryz.results63,go_sem];rfl) rfl ?_;unfold fz;rw[wA.out];exact⟨_,_,rfl,mQ.out,by simpa using eW.out,eu.out⟩
