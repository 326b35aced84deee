/- The contract of the reference's Decode: what it gives is St.decT of the format's element. -/
import Derived.Test.YthoemdibbldndaaGreatDoorGH
import Derived.Test.YthoemdibbldndaaGreatDoorGD
import Derived.Test.YthoemdibbldndaaGreatDoorRefCheck
set_option linter.all false
set_option maxHeartbeats 0
set_option maxRecDepth 20000
open Go.Value renaming int->Yp,string->Yq,slice->Yr,tuple->Yu
open Go.IntKind renaming i64->Yv
open Go.Obj renaming cells->Yw
namespace Go.Proofs.YthoemdibbldndaaGreatDoor
open Go.RowKit
def NY(E:List UInt8->St.El):Prop:=∀l k t n,E l=some (k,t,n)->(k=0\/k=1\/k=2\/k=3\/k=4\/k=5)/\1<=n/\n<=l.length/\t.length<=n
def OV(op:List St.It)(n:Nat):Prop:=∀o∈op,o.2.1.length<=n
def SK(w:World)(E:List UInt8->St.El)(raw:ByteArray)(s8 s9 dy gB s12 nU:Value)(wr:World):Prop:=
 ∃(a d c:Nat) (f op:List St.It) (cuts:List Nat) (fuel:Nat),gB=Yp Yv a/\s12=Yp Yv d/\nU=Yp Yv c/\a<=raw.size/\raw.size-a<=fuel /\
  wr.ownsRow w.1.size 36 3 s8 f.length (ak f)/\wr.ownsRow w.1.size 36 3 s9 op.length (ak op)/\wr.ownsRow w.1.size 3 1 dy cuts.length (fc cuts)/\St.Nm f/\aY f<=a/\f.length<=512/\cuts.length<=1024 /\
  op.length<=cuts.length/\c<=cuts.length/\OV op raw.size /\
  St.dv E raw.size raw.1.1 0 0 [] [] [] 0=St.dv E fuel (raw.1.1.drop a) a d f cuts op c/\ac w wr
theorem uD(fmt:Int)(E:List UInt8->St.El)(hE:Ct fmt E)(hok:NY E)(raw:ByteArray)(w:World)(hr:raw.size<=4611686018427387904) :
  Calls Tryz.prog 63 #[Yp Yv fmt,Yq raw] w (fz (St.dv E raw.size raw.1.1 0 0 [] [] [] 0) w):=by
 obtain⟨i0,hi,hz0,hz1,hz2⟩:=info_parts gQ;obtain⟨j0,ji,jz0,jz1,jz2⟩:=info_parts dM;go_enter Tryz.func63,Tryz.ntmps63;go_wp2;go_loopw [8,9,10,11,12,13] (λs8 s9 dy gB s12 nU wr=>SK w E raw s8 s9 dy gB s12 nU wr) (λ_ _ _ gB _ _ _=>raw.size+1-(intOf gB).toNat)
 case atStart=>exact⟨0,0,0,[],[],[],raw.size,rfl,rfl,rfl,by omega,by omega,World.ownsRow_nil _ _ _ _,World.ownsRow_nil _ _ _ _,World.ownsRow_nil _ _ _ _,St.nQ,by simp[aY],by simp,by simp,by simp,by simp,(λo ho=>by cases ho),by simp,ac.refl _⟩
 case round=>
  obtain⟨a,d,c,f,op,cuts,fuel,rfl,rfl,rfl,ha,hfu,hO8,hO9,hO10,hN,ht,h1,h2,h3,h4,hS,hD,hu⟩:=hrel;have HD:=aa hD;have HU:=aa hu;have lY:=aa hO8;have pR:=aa hO9;have jJ:=aa hO10;have HS:=aa hS;have hsz:=hu.size;have HN:=aa hN;clear hN hS
  by_cases hlt:a<raw.size
  ·have h0:=F1 hlt;obtain⟨fuel,rfl⟩:∃m,fuel=m+1:=⟨fuel-1,by omega⟩;obtain⟨x,hx⟩:∃x,raw.extract a raw.size=x:=⟨_,rfl⟩;have hxl:x.1.1=raw.1.1.drop a:=by rw[<-hx,Lib.extract_data,List.take_of_length_le (by simp)]
   have hxs:x.size=raw.size-a:=by rw[<-hx];simp
   have hel:=λW=>hE x W (by omega) (by omega)
   rw[hxl]at hel;have jR:=aa hel;have y1:(a:Int)<=(raw.size:Int):=by omega
   have y2:(a:Int)<(raw.size:Int):=by omega
   clear hel hD hu hE;cases hs:E (raw.1.1.drop a)with
   | none=>
    have hd2:=aa (HD.out.trans (St.ka fuel a d _ cuts h0 hs));have j3:Hid (∀W,Calls Tryz.prog 104 #[Yp Yv fmt,Yq x] W λe w'=>e=.returned (Yu #[.agg #[Yp Yv 0,Yq ⟨#[]⟩,Yp Yv 0],Yp Yv 0])/\ac W w'):=aa (by have:=jR.out;rw[hs]at this;exact this);clear hs h0 HD jR hxl hO8 hO9 hO10;go_wp2_with (go_at_call 104;refine(j3.out _).mono ?_;rintro e w2 ⟨rfl,hu2⟩);have hu3:=HU.out.trans hu2;refine bodyPost_ret (v:=Yu #[Yr none 0 0,Yr none 0 0,Yp Yv a,Yp Yv 2]) (by simp[results,Tryz.results63,go_sem]) rfl ?_;unfold fz;rw[hd2.out];exact⟨_,_,rfl,World.ownsRow_nil _ _ _ _,World.ownsRow_nil _ _ _ _,uZ⟩
   | some q=>
    obtain⟨k,t,n⟩:=q;obtain⟨hk,jk,fD,htn⟩:=hok _ _ _ _ hs;have ph:a+n<=raw.size:=by simp at fD;omega
    have d0:((n:Int)==0)=false:=by simp;omega
    have jj:(raw.1.1.drop a).drop n=raw.1.1.drop (a+n):=by rw[List.drop_drop]
    have j3:Hid (∀W,Calls Tryz.prog 104 #[Yp Yv fmt,Yq x] W λe w'=>e=.returned (Yu #[.agg #[Yp Yv k,Yq ⟨t.toArray⟩,Yp Yv 0],Yp Yv n])/\ac W w'):=aa (by have:=jR.out;rw[hs]at this;exact this);obtain⟨A8,c8,rfl,_,_,hA8⟩:=aW hO8;obtain⟨A9,c9,rfl,_,_,hA9⟩:=aW hO9;obtain⟨gJ,bK,rfl,_,_,hA10⟩:=aW hO10;obtain⟨tb,fT⟩:∃tb:ByteArray,(⟨t.toArray⟩:ByteArray)=tb:=⟨_,rfl⟩;have mX:tb.1.1=t:=by rw[<-fT]
    rw[fT]at j3
    have kZ:∀(i:Int) (W:World) (b:Nat),aJ W A8 f->aJ W (some ⟨b,0,none⟩) [(k,t,i)]->Calls Tryz.prog 44 #[Yr A8 f.length c8,Yr (some ⟨b,0,none⟩) 1 1] W λe w'=>∃v,e=.returned v/\w'.ownsRow W.1.size 36 3 v (St.aK f (k,t,i)).length (ak (St.aK f (k,t,i)))/\ac W w':=by
     intro i W b h h';have htx:aY (f++[(k,t,i)])<=a+n:=by rw[cA];simp only;omega
     have:=l5 A8 f.length c8 f (some ⟨b,0,none⟩) 1 1 [(k,t,i)] W rfl rfl (λe=>by have:=hA8 e;omega) (λe=>by cases e) h h' (by omega) (by omega)
     rw[show St.bI (f++[(k,t,i)])=St.aK f (k,t,i)by rw[St.ek,HN.out]]at this;exact this
    have hadd:∀i:Int,St.Nm (St.aK f (k,t,i))/\aY (St.aK f (k,t,i))<=a+n/\(St.aK f (k,t,i)).length<=f.length+1:=λi=>⟨St.eJ HN.out _,by have:=ik f (k,t,i);simp only at this;omega,(St.gN f (k,t,i)).1⟩
    have pO:=aa kZ;have HAD:=aa hadd;clear kZ hadd hA8 hA9 hA10
    by_cases ic:k=0
    ·subst ic;have hd2:=HD.out.trans (St.lO fuel a d _ cuts h0 hs);rw[jj]at hd2;have du:=aa hd2;clear hs h0 HD jR hxl hO8 hO9 hO10 hd2 jj fD fT mX pO HAD;go_wp2_with (go_at_call 104;refine(j3.out _).mono ?_;rintro e w2 ⟨rfl,hu2⟩);have hu3:=HU.out.trans hu2;exact⟨⟨a+n,d,c,f,op,cuts,fuel,congrArg (Yp Yv) (by omega),rfl,rfl,ph,by omega,aH (uZ) lY.out,aH (uZ) pR.out,aH (uZ) jJ.out,HN.out,by omega,h1,h2,h3,h4,HS.out,du.out,uZ⟩,by simp[intOf];omega⟩
    have dT:=aa (λ(h:St.stepT op c k t=none)=>HD.out.trans (St.mS fuel a d f cuts h0 hs ic h));have cC:=aa (λ(i:Int) (cJ:List St.It) (c':Nat) (h:St.stepT op c k t=some (i,cJ,c')) hf=>HD.out.trans (St.j9 fuel a d f cuts h0 hs ic h hf))
    have HST:Hid (∀(i:Int) (cJ:List St.It) (c':Nat),St.stepT op c k t=some (i,cJ,c')->¬(512<(St.aK f (k,t,i)).length\/1024<=cuts.length)->St.dv E raw.size raw.1.1 0 0 [] [] [] 0=St.dv E fuel (raw.1.1.drop (a+n)) (a+n) (a+n) (St.aK f (k,t,i)) (cuts++[d]) cJ c'):=aa (λi cJ c' h hf=>by
     have:=HD.out.trans (St.jh fuel a d f cuts h0 hs ic h hf)
     rwa [jj]at this)
    clear hs h0 HD jR hxl hO8 hO9 hO10 jj fD;have hk':(k=1\/k=5)\/k=2\/k=4\/k=3:=by omega
    clear hk;rcases hk' with hk5|rfl|rfl|rfl
    ·have hst:St.stepT op c k t=some (0,op,c):=by unfold St.stepT;rw[if_neg (by omega),if_neg (by omega),if_neg (by omega)]
     have q0:(k==0)=false:=by simp;omega
     have q2:(k==2)=false:=by simp;omega
     have q3:(k==3)=false:=by simp;omega
     have q4:(k==4)=false:=by simp;omega
     clear hk5 ic;have eg:=aa (pO.out 0);have hadd:=HAD.out 0;have ld:=aa (cC.out _ _ _ hst);have dB:=aa (HST.out _ _ _ hst);generalize hg:St.aK f (k,t,0)=g at *;obtain⟨ui,hgt,hgl⟩:=hadd;have jT:=aa ui;clear hg ui hst HAD pO cC HST dT;go_wp2_with fail;refine(j3.out _).mono ?_;rintro e w2 ⟨rfl,hu2⟩;have gX:=aa (show ac wr (w2.alloc (Yw #[Yp Yv k,Yq tb,Yp Yv 0] 36))from hu2.alloc _);have jp:=aa (bG w2 (Yw #[Yp Yv k,Yq tb,Yp Yv 0] 36) w2.1.size rfl);clear hu2;go_wp2_with fail;have kj:(w2.alloc (Yw #[Yp Yv k,Yq tb,Yp Yv 0] 36)).1.size=w2.1.size+1:=by simp
     generalize w2.alloc (Yw #[Yp Yv k,Yq tb,Yp Yv 0] 36)=W9 at *;have c0:W9.cell? ⟨w2.1.size,0,none⟩=some (Yp Yv k):=aj jp.out 0;have wj:=ae jp.out;refine(eg.out _ _ ?_ ?_).mono ?_
     ·exact((a7 lY.out rfl).ai gX.out).ai ((ac.refl _).alloc _)
     ·rw[<-mX];exact ej _ _ _ _ _ (by rw[<-kj];simp) (by rw[<-kj];simp) (by rw[<-kj,bo];simp) (by rw[<-kj];simp)
     clear kj;rintro e w3 ⟨v3,rfl,cZ,hu3⟩;obtain⟨A3,c3,rfl,_,_,_⟩:=aW cZ;have bj:ac wr w3:=gX.out.trans (ac.trans (uZ) hu3);have bt:=HU.out.trans bj
     by_cases hbad:512<g.length\/1024<=cuts.length
     ·have du:=aa (ld.out hbad);have hb':(512:Int)<(g.length:Int)\/(¬(512:Int)<(g.length:Int)/\(1024:Int)<=(cuts.length:Int)):=by omega
      clear ld dB hbad cZ hu3 bj c0;rcases hb' with z5|⟨z5,z6⟩
      all_goals
       go_wp2;refine bodyPost_ret (v:=Yu #[Yr none 0 0,Yr none 0 0,Yp Yv a,Yp Yv 3]) (by simp[results,Tryz.results63,go_sem]) rfl ?_;unfold fz;rw[du.out];exact⟨_,_,rfl,World.ownsRow_nil _ _ _ _,World.ownsRow_nil _ _ _ _,bt⟩
     have z5:¬((512:Int)<(g.length:Int)):=by omega
     have z6:¬((1024:Int)<=(cuts.length:Int)):=by omega
     have du:=aa (dB.out hbad);clear ld dB hbad;have hs4:=bj.size;have de:=aa (HU.out.trans bj);have gF:=aa (aH bj jJ.out);have qC:=aa (aH bj pR.out);have ft:=aa (cT (base':=w.1.size) cZ (by have:=gX.out.size;simp;omega));have jL:∀x,(Yr A3 g.length c3).ownBlock=some x->wr.1.size<=x:=λx hx=>by have:=aD cZ x hx;have:=gX.out.size;simp at *;omega
     have hb3:=(hu3.below.block w2.1.size (by simp;omega)).trans ((fB _ _ _ wj).trans jp.out);have hc:w3.cell? ⟨w2.1.size,0,none⟩=some (.int .i64 k):=aj hb3 0;have hc1:w3.cell? ⟨w2.1.size,1,none⟩=some (.string tb):=aj hb3 1;have hc2:w3.cell? ⟨w2.1.size,2,none⟩=some (.int .i64 0):=aj hb3 2;haveI:af w2.1.size w3:=af.of (ae hb3);have Cz:=aa jL;clear cZ hu3 jL hb3 c0 jp;go_wp2_with (at_builtin;refine wpList_append_own _ rfl _ _ 42 rfl w.1.size 3 i0 (.int .i64 0) 1 8 Tryz.underlying42 hi hz0 hz1 hz2 rfl (by decide) (.slice gJ cuts.length bK) cuts.length (fc cuts) rfl ?_ _ 1 1 [.int .i64 d] rfl rfl ?_ ?_ (by unfold maxLen;omega) (by omega) ?_ ?_)
     ·exact aH (uZ) gF.out
     ·exact gS _ _ _
     ·intro u hu';simp at hu';subst hu';rfl
     ·have:=de.out.size;simp;omega
     intro v' w5 fh ga _;rw[<-dF]at fh;have dS:=aa ((de.out.alloc _).grown ga (λg hg=>aD gF.out g hg));have hA:∀ {W:World} {v:Value} {n:Nat} {xs:List Value},ac w3 W->W.grownBy w5 (Yr gJ cuts.length bK).ownBlock->w3.ownsRow w.1.size 36 3 v n xs->w5.ownsRow w.1.size 36 3 v n xs:=λhW h5 hv=>(aH hW hv).kept h5 (da (aH hW hv) (aH hW gF.out) (by decide))
     have mQ:=aa (hA (uZ) ga ft.out);have rN:=aa (hA (uZ) ga qC.out);have fA:=aa fh;clear ga fh hA;go_wp2;exact⟨⟨a+n,a+n,c,g,op,cuts++[d],fuel,congrArg (Yp Yv) (by omega),congrArg (Yp Yv) (by omega),rfl,ph,by omega,mQ.out,by simpa using rN.out,by simpa using fA.out,jT.out,by omega,by omega,by simp;omega,by simp;omega,by simp;omega,HS.out,du.out,dS.out⟩,by simp[intOf];omega⟩
    ·have hst:St.stepT op c 2 t=some (((c:Int)+1),op++[(2,t,(c:Int)+1)],c+1):=rfl;have eg:=aa (pO.out ((c:Int)+1));have hadd:=HAD.out ((c:Int)+1);have ld:=aa (cC.out _ _ _ hst);have dB:=aa (HST.out _ _ _ hst);generalize hg:St.aK f (2,t,((c:Int)+1))=g at *;obtain⟨ui,hgt,hgl⟩:=hadd;have jT:=aa ui;clear hg ui hst HAD pO cC HST dT;go_wp2_with fail;refine(j3.out _).mono ?_;rintro e w2 ⟨rfl,hu2⟩;have gX:=aa (show ac wr (w2.alloc (Yw #[Yp Yv 2,Yq tb,Yp Yv ((c:Int)+1)] 36))from hu2.alloc _);have jp:=aa (bG w2 (Yw #[Yp Yv 2,Yq tb,Yp Yv ((c:Int)+1)] 36) w2.1.size rfl);clear hu2;go_wp2_with fail;have kj:(w2.alloc (Yw #[Yp Yv 2,Yq tb,Yp Yv ((c:Int)+1)] 36)).1.size=w2.1.size+1:=by simp
     generalize w2.alloc (Yw #[Yp Yv 2,Yq tb,Yp Yv ((c:Int)+1)] 36)=W9 at *;have c0:W9.cell? ⟨w2.1.size,0,none⟩=some (Yp Yv 2):=aj jp.out 0;have wj:=ae jp.out;refine(eg.out _ _ ?_ ?_).mono ?_
     ·exact((a7 lY.out rfl).ai gX.out).ai ((ac.refl _).alloc _)
     ·rw[<-mX];exact ej _ _ _ _ _ (by rw[<-kj];simp) (by rw[<-kj];simp) (by rw[<-kj,bo];simp) (by rw[<-kj];simp)
     clear kj;rintro e w3 ⟨v3,rfl,cZ,hu3⟩;obtain⟨A3,c3,rfl,_,_,_⟩:=aW cZ;have bj:ac wr w3:=gX.out.trans (ac.trans (uZ) hu3);have bt:=HU.out.trans bj
     by_cases hbad:512<g.length\/1024<=cuts.length
     ·have du:=aa (ld.out hbad);have hb':(512:Int)<(g.length:Int)\/(¬(512:Int)<(g.length:Int)/\(1024:Int)<=(cuts.length:Int)):=by omega
      clear ld dB hbad cZ hu3 bj c0;rcases hb' with z5|⟨z5,z6⟩
      all_goals
       go_wp2;refine bodyPost_ret (v:=Yu #[Yr none 0 0,Yr none 0 0,Yp Yv a,Yp Yv 3]) (by simp[results,Tryz.results63,go_sem]) rfl ?_;unfold fz;rw[du.out];exact⟨_,_,rfl,World.ownsRow_nil _ _ _ _,World.ownsRow_nil _ _ _ _,bt⟩
     have z5:¬((512:Int)<(g.length:Int)):=by omega
     have z6:¬((1024:Int)<=(cuts.length:Int)):=by omega
     have du:=aa (dB.out hbad);clear ld dB hbad;have hs4:=bj.size;have de:=aa (HU.out.trans bj);have gF:=aa (aH bj jJ.out);have qC:=aa (aH bj pR.out);have ft:=aa (cT (base':=w.1.size) cZ (by have:=gX.out.size;simp;omega));have jL:∀x,(Yr A3 g.length c3).ownBlock=some x->wr.1.size<=x:=λx hx=>by have:=aD cZ x hx;have:=gX.out.size;simp at *;omega
     have hb3:=(hu3.below.block w2.1.size (by simp;omega)).trans ((fB _ _ _ wj).trans jp.out);have hc:w3.cell? ⟨w2.1.size,0,none⟩=some (.int .i64 2):=aj hb3 0;have hc1:w3.cell? ⟨w2.1.size,1,none⟩=some (.string tb):=aj hb3 1;have hc2:w3.cell? ⟨w2.1.size,2,none⟩=some (.int .i64 ((c:Int)+1)):=aj hb3 2;haveI:af w2.1.size w3:=af.of (ae hb3);have Cz:=aa jL;clear cZ hu3 jL hb3 c0 jp;go_wp2_with (at_builtin;refine uU rfl _ _ 37 rfl w.1.size 36 j0 (.agg #[.int .i64 0,.string ⟨#[]⟩,.int .i64 0]) 3 32 Tryz.underlying37 ji jz0 jz1 jz2 rfl (by decide) (.slice A9 op.length c9) op.length (ak op) rfl ?_ _ 1 1 [.int .i64 2,.string tb,.int .i64 ((c:Int)+1)] rfl rfl ?_ (cX _ _ _) (by unfold maxLen;omega) (by omega) ?_ ?_)
     ·exact qC.out.alloc _
     ·exact eL _ _ _ _ _ _ rfl
     ·have:=de.out.size;simp;omega
     intro v9 w4 tm xX Va;have KM:ac w3 (w3.alloc (Yw #[Yp Yv 2,Yq tb,Yp Yv ((c:Int)+1)] 36)):=uZ
     have UR:=aa (show w4.ownsRow w.1.size 36 3 v9 (op++[(2,t,(c:Int)+1)]).length (ak (op++[(2,t,(c:Int)+1)]))by
      rw[bM,List.length_append,List.length_singleton,<-mX];simp only[bo];exact tm)
     have hne:(Yr A3 g.length c3).ownBlock=none\/(Yr A3 g.length c3).ownBlock≠(Yr A9 op.length c9).ownBlock:=by
      cases hb:(Yr A3 g.length c3).ownBlock with
      | none=>exact .inl rfl
      | some x=>
       refine .inr λe=>?_
       have:=Cz.out x hb
       have:=(pR.out.lt x e.symm).2
       omega
     have UQ:=aa ((aH KM ft.out).kept xX hne);have Ha:=aa ((aH KM gF.out).kept xX (da (aH KM gF.out) (aH KM qC.out) (by decide)));have QE:=aa ((de.out.alloc _).grown xX (λg hg=>aD qC.out g hg));obtain⟨Xy,c9',rfl,_⟩:=aI tm;clear xX tm Va hne KM hc hc1 hc2 de ft gF qC Cz;go_wp2_with (at_builtin;refine wpList_append_own _ rfl _ _ 42 rfl w.1.size 3 i0 (.int .i64 0) 1 8 Tryz.underlying42 hi hz0 hz1 hz2 rfl (by decide) (.slice gJ cuts.length bK) cuts.length (fc cuts) rfl ?_ _ 1 1 [.int .i64 d] rfl rfl ?_ ?_ (by unfold maxLen;omega) (by omega) ?_ ?_)
     ·exact aH (uZ) Ha.out
     ·exact gS _ _ _
     ·intro u hu';simp at hu';subst hu';rfl
     ·have:=QE.out.size;simp;omega
     intro v' w5 fh ga _;rw[<-dF]at fh;have dS:=aa ((QE.out.alloc _).grown ga (λg hg=>aD Ha.out g hg));have hA:∀ {W:World} {v:Value} {n:Nat} {xs:List Value},ac w4 W->W.grownBy w5 (Yr gJ cuts.length bK).ownBlock->w4.ownsRow w.1.size 36 3 v n xs->w5.ownsRow w.1.size 36 3 v n xs:=λhW h5 hv=>(aH hW hv).kept h5 (da (aH hW hv) (aH hW Ha.out) (by decide))
     have mQ:=aa (hA (uZ) ga UQ.out);have rN:=aa (hA (uZ) ga UR.out);have fA:=aa fh;clear ga fh hA;go_wp2;exact⟨⟨a+n,a+n,c+1,g,op++[(2,t,(c:Int)+1)],cuts++[d],fuel,congrArg (Yp Yv) (by omega),congrArg (Yp Yv) (by omega),congrArg (Yp Yv) (by omega),ph,by omega,mQ.out,by simpa using rN.out,by simpa using fA.out,jT.out,by omega,by omega,by simp;omega,by simp;omega,by simp;omega,(λo ho=>by rcases List.mem_append.1 ho with ho|ho;exact HS.out o ho;simp at ho;subst ho;show t.length<=_;omega),du.out,dS.out⟩,by simp[intOf];omega⟩
    ·have hst:St.stepT op c 4 t=some (((c:Int)+1),op,c+1):=rfl;have eg:=aa (pO.out ((c:Int)+1));have hadd:=HAD.out ((c:Int)+1);have ld:=aa (cC.out _ _ _ hst);have dB:=aa (HST.out _ _ _ hst);generalize hg:St.aK f (4,t,((c:Int)+1))=g at *;obtain⟨ui,hgt,hgl⟩:=hadd;have jT:=aa ui;clear hg ui hst HAD pO cC HST dT;go_wp2_with fail;refine(j3.out _).mono ?_;rintro e w2 ⟨rfl,hu2⟩;have gX:=aa (show ac wr (w2.alloc (Yw #[Yp Yv 4,Yq tb,Yp Yv ((c:Int)+1)] 36))from hu2.alloc _);have jp:=aa (bG w2 (Yw #[Yp Yv 4,Yq tb,Yp Yv ((c:Int)+1)] 36) w2.1.size rfl);clear hu2;go_wp2_with fail;have kj:(w2.alloc (Yw #[Yp Yv 4,Yq tb,Yp Yv ((c:Int)+1)] 36)).1.size=w2.1.size+1:=by simp
     generalize w2.alloc (Yw #[Yp Yv 4,Yq tb,Yp Yv ((c:Int)+1)] 36)=W9 at *;have c0:W9.cell? ⟨w2.1.size,0,none⟩=some (Yp Yv 4):=aj jp.out 0;have wj:=ae jp.out;refine(eg.out _ _ ?_ ?_).mono ?_
     ·exact((a7 lY.out rfl).ai gX.out).ai ((ac.refl _).alloc _)
     ·rw[<-mX];exact ej _ _ _ _ _ (by rw[<-kj];simp) (by rw[<-kj];simp) (by rw[<-kj,bo];simp) (by rw[<-kj];simp)
     clear kj;rintro e w3 ⟨v3,rfl,cZ,hu3⟩;obtain⟨A3,c3,rfl,_,_,_⟩:=aW cZ;have bj:ac wr w3:=gX.out.trans (ac.trans (uZ) hu3);have bt:=HU.out.trans bj
     by_cases hbad:512<g.length\/1024<=cuts.length
     ·have du:=aa (ld.out hbad);have hb':(512:Int)<(g.length:Int)\/(¬(512:Int)<(g.length:Int)/\(1024:Int)<=(cuts.length:Int)):=by omega
      clear ld dB hbad cZ hu3 bj c0;rcases hb' with z5|⟨z5,z6⟩
      all_goals
       go_wp2;refine bodyPost_ret (v:=Yu #[Yr none 0 0,Yr none 0 0,Yp Yv a,Yp Yv 3]) (by simp[results,Tryz.results63,go_sem]) rfl ?_;unfold fz;rw[du.out];exact⟨_,_,rfl,World.ownsRow_nil _ _ _ _,World.ownsRow_nil _ _ _ _,bt⟩
     have z5:¬((512:Int)<(g.length:Int)):=by omega
     have z6:¬((1024:Int)<=(cuts.length:Int)):=by omega
     have du:=aa (dB.out hbad);clear ld dB hbad;have hs4:=bj.size;have de:=aa (HU.out.trans bj);have gF:=aa (aH bj jJ.out);have qC:=aa (aH bj pR.out);have ft:=aa (cT (base':=w.1.size) cZ (by have:=gX.out.size;simp;omega));have jL:∀x,(Yr A3 g.length c3).ownBlock=some x->wr.1.size<=x:=λx hx=>by have:=aD cZ x hx;have:=gX.out.size;simp at *;omega
     have hb3:=(hu3.below.block w2.1.size (by simp;omega)).trans ((fB _ _ _ wj).trans jp.out);have hc:w3.cell? ⟨w2.1.size,0,none⟩=some (.int .i64 4):=aj hb3 0;have hc1:w3.cell? ⟨w2.1.size,1,none⟩=some (.string tb):=aj hb3 1;have hc2:w3.cell? ⟨w2.1.size,2,none⟩=some (.int .i64 ((c:Int)+1)):=aj hb3 2;haveI:af w2.1.size w3:=af.of (ae hb3);have Cz:=aa jL;clear cZ hu3 jL hb3 c0 jp;go_wp2_with (at_builtin;refine wpList_append_own _ rfl _ _ 42 rfl w.1.size 3 i0 (.int .i64 0) 1 8 Tryz.underlying42 hi hz0 hz1 hz2 rfl (by decide) (.slice gJ cuts.length bK) cuts.length (fc cuts) rfl ?_ _ 1 1 [.int .i64 d] rfl rfl ?_ ?_ (by unfold maxLen;omega) (by omega) ?_ ?_)
     ·exact aH (uZ) gF.out
     ·exact gS _ _ _
     ·intro u hu';simp at hu';subst hu';rfl
     ·have:=de.out.size;simp;omega
     intro v' w5 fh ga _;rw[<-dF]at fh;have dS:=aa ((de.out.alloc _).grown ga (λg hg=>aD gF.out g hg));have hA:∀ {W:World} {v:Value} {n:Nat} {xs:List Value},ac w3 W->W.grownBy w5 (Yr gJ cuts.length bK).ownBlock->w3.ownsRow w.1.size 36 3 v n xs->w5.ownsRow w.1.size 36 3 v n xs:=λhW h5 hv=>(aH hW hv).kept h5 (da (aH hW hv) (aH hW gF.out) (by decide))
     have mQ:=aa (hA (uZ) ga ft.out);have rN:=aa (hA (uZ) ga qC.out);have fA:=aa fh;clear ga fh hA;go_wp2;exact⟨⟨a+n,a+n,c+1,g,op,cuts++[d],fuel,congrArg (Yp Yv) (by omega),congrArg (Yp Yv) (by omega),congrArg (Yp Yv) (by omega),ph,by omega,mQ.out,by simpa using rN.out,by simpa using fA.out,jT.out,by omega,by omega,by simp;omega,by simp;omega,by simp;omega,HS.out,du.out,dS.out⟩,by simp[intOf];omega⟩
    rcases St.cL op with rfl|⟨o1,o,rfl⟩
    ·have du:=aa (dT.out rfl);simp only[List.length_nil];clear dT cC HST pO HAD;go_wp2_with fail;refine(j3.out _).mono ?_;rintro e w2 ⟨rfl,hu2⟩;have zI:=aa hu2;clear hu2;go_wp2_with fail
     first|refine aP (by kernel_rfl) (by kernel_rfl) ?_|refine aU (by kernel_rfl) (by kernel_rfl) ?_
     repeat (go_big_quiet_step (first|(fail)))
     refine wpQuiet_nil ?_;rintro _ ⟨X,rfl⟩;have hu3:ac w (under (w2.alloc (Yw #[Yp Yv 3,Yq tb,Yp Yv 0] 36)) X):=HU.out.trans (zI.out.trans uZ);clear zI;go_wp2;refine bodyPost_ret (v:=Yu #[Yr none 0 0,Yr none 0 0,Yp Yv a,Yp Yv 7]) (by simp[results,Tryz.results63,go_sem]) rfl ?_;unfold fz;rw[du.out];exact⟨_,_,rfl,World.ownsRow_nil _ _ _ _,World.ownsRow_nil _ _ _ _,hu3⟩
    obtain⟨m,hm⟩:∃m,o1.length=m:=⟨_,rfl⟩;have hol:(o1++[o]).length=m+1:=by simp[hm]
    have cZ:=pR.out;rw[hol]at cZ;obtain⟨gb,rfl,kg,hgl',hgc⟩:=eE cZ (by omega);have DH:(o1++[o])[m]?=some o:=by rw[<-hm];simp
    have hcs:=kH (o1++[o]) m (by rw[hol];omega);have Bg:(o1++[o])[m]'(by rw[hol];omega)=o:=Option.some.inj ((List.getElem?_eq_getElem (by rw[hol];omega)).symm.trans DH);rw[Bg]at hcs;have i1:=hgc _ _ hcs.2.1;have i2:=hgc _ _ hcs.2.2;have RH:o.2.1.length<=4611686018427387904:=by have:=HS.out o (by simp);omega
    obtain⟨ok,ot,oi⟩:=o;simp only at i1 i2 RH;haveI:af gb wr:=af.of hgl';have z0:¬((m:Int)<0):=by omega
    have z3:(m:Int)<((m+1:Nat):Int):=by omega
    have DE:m<=2000:=by rw[hol]at h3;omega
    obtain⟨Xj,hc9b⟩:m+1<=c9/\c9<=maxLen:=by
     obtain⟨_,_,e,ha,hb⟩:=aI cZ;simp only[Value.slice.injEq]at e;obtain⟨_,_,rfl⟩:=e;exact⟨ha,hb⟩
    have JB:=aa hol;have bz:=aa (λW=>kQ ot W (by omega));have HM:=aa hm
    have US:=aa (show wr.ownsRow w.1.size 36 3 (Yr (some ⟨gb,0,none⟩) o1.length c9) o1.length (ak o1)by
     have hsh:=vC cZ m (by omega);have Ix:(ak (o1++[(ok,ot,oi)])).take (m*3)=ak o1:=by rw[bM,List.take_left' (by rw[j8,hm])]
     rw[Ix]at hsh
     rw[hm];exact hsh)
    rw[hol]at h3;simp only[hol];clear hcs hgc DH Bg hol cZ hm;obtain⟨sb,oa⟩:∃sb:ByteArray,(⟨ot.toArray⟩:ByteArray)=sb:=⟨_,rfl⟩;obtain⟨nb,hnb⟩:∃nb:ByteArray,(⟨(St.nameOf ot).toArray⟩:ByteArray)=nb:=⟨_,rfl⟩;rw[oa,hnb]at bz;rw[oa]at i1;have hnl:nb.1.1=St.nameOf ot:=by rw[<-hnb]
    clear oa hnb;obtain⟨bq,hq⟩:∃bq,(nb.toList != tb.toList)=bq:=⟨_,rfl⟩
    have Iy:St.stepT (o1++[(ok,ot,oi)]) c 3 t=if bq then none else some (oi,o1,c):=by
     unfold St.stepT;simp only[if_true,List.getLast?_append,List.getLast?_singleton,Option.some_or,List.dropLast_concat];cases bq
     ·rw[bne_eq_false_iff_eq,Lib.toList_data,Lib.toList_data,hnl,mX]at hq;rw[if_pos hq];rfl
     rw[bne_iff_ne,Lib.toList_data,Lib.toList_data,hnl,mX]at hq;rw[if_neg hq];rfl
    clear hnl;cases bq;rotate_left 1
    ·have du:=aa (dT.out Iy);clear Iy dT cC HST pO HAD;have RO:(nb.toList==tb.toList)=false:=by simpa using hq
     have KI:(!(nb.toList==tb.toList))=true:=hq;go_wp2_with fail;refine(j3.out _).mono ?_;rintro e w2 ⟨rfl,hu2⟩;have RY:wr.1.size<=w2.1.size:=hu2.size;have l1:w2.cell? ⟨gb,m*3+1,none⟩=some (Yq sb):=(hu2.cell (p:=⟨gb,m*3+1,none⟩) hgl').trans i1;haveI:af gb w2:=af.of (Nat.lt_of_lt_of_le hgl' hu2.size);have zI:=aa hu2;clear hu2;go_wp2_with fail;have GZ:(decide ((m:Int)<0))=false:=decide_eq_false (by omega)
     first|refine aP (by kernel_rfl) (by kernel_rfl) ?_|refine aU (by kernel_rfl) (by kernel_rfl) ?_
     repeat (go_big_quiet_step (first|(go_at_call 105;exact Calls.eG (bz.out _))))
     refine wpQuiet_nil ?_;rintro _ ⟨X,rfl⟩;clear GZ;have hI:ac (w2.alloc (Yw #[Yp Yv 3,Yq tb,Yp Yv 0] 36)) (under (w2.alloc (Yw #[Yp Yv 3,Yq tb,Yp Yv 0] 36)) X):=⟨X,rfl⟩;generalize under (w2.alloc (Yw #[Yp Yv 3,Yq tb,Yp Yv 0] 36)) X=W at *;have mK:=aa ((zI.out.alloc _).trans hI);have FQ:=aa (HU.out.trans mK.out);have vO:=aa ((hI.below.block w2.1.size (by simp)).trans (bG w2 (Yw #[Yp Yv 3,Yq tb,Yp Yv 0] 36) w2.1.size rfl));clear hI;go_wp2;refine bodyPost_ret (v:=Yu #[Yr none 0 0,Yr none 0 0,Yp Yv a,Yp Yv 7]) (by simp[results,Tryz.results63,go_sem]) rfl ?_;unfold fz;rw[du.out];exact⟨_,_,rfl,World.ownsRow_nil _ _ _ _,World.ownsRow_nil _ _ _ _,FQ.out⟩
    have hst:St.stepT (o1++[(ok,ot,oi)]) c 3 t=some (oi,o1,c):=Iy;have RO:(nb.toList==tb.toList)=true:=by simpa using hq
    have KI:(!(nb.toList==tb.toList))=false:=hq;clear Iy;have eg:=aa (pO.out oi);have hadd:=HAD.out oi;have ld:=aa (cC.out _ _ _ hst);have dB:=aa (HST.out _ _ _ hst);generalize hg:St.aK f (3,t,oi)=g at *;obtain⟨ui,hgt,hgl⟩:=hadd;have jT:=aa ui;clear hg ui hst HAD pO cC HST dT;go_wp2_with fail;refine(j3.out _).mono ?_;rintro e w2 ⟨rfl,hu2⟩;have RY:wr.1.size<=w2.1.size:=hu2.size;have l1:w2.cell? ⟨gb,m*3+1,none⟩=some (Yq sb):=(hu2.cell (p:=⟨gb,m*3+1,none⟩) hgl').trans i1;haveI:af gb w2:=af.of (Nat.lt_of_lt_of_le hgl' hu2.size);have zI:=aa hu2;clear hu2;go_wp2_with fail;have GZ:(decide ((m:Int)<0))=false:=decide_eq_false (by omega)
    first|refine aP (by kernel_rfl) (by kernel_rfl) ?_|refine aU (by kernel_rfl) (by kernel_rfl) ?_
    repeat (go_big_quiet_step (first|(go_at_call 105;exact Calls.eG (bz.out _))))
    refine wpQuiet_nil ?_;rintro _ ⟨X,rfl⟩;clear GZ;have hI:ac (w2.alloc (Yw #[Yp Yv 3,Yq tb,Yp Yv 0] 36)) (under (w2.alloc (Yw #[Yp Yv 3,Yq tb,Yp Yv 0] 36)) X):=⟨X,rfl⟩;generalize under (w2.alloc (Yw #[Yp Yv 3,Yq tb,Yp Yv 0] 36)) X=W at *;have mK:=aa ((zI.out.alloc _).trans hI);have FQ:=aa (HU.out.trans mK.out);have vO:=aa ((hI.below.block w2.1.size (by simp)).trans (bG w2 (Yw #[Yp Yv 3,Yq tb,Yp Yv 0] 36) w2.1.size rfl));clear hI;have q2:W.cell? ⟨gb,m*3+2,none⟩=some (Yp Yv oi):=(mK.out.cell (p:=⟨gb,m*3+2,none⟩) hgl').trans i2;have x0:W.cell? ⟨w2.1.size,0,none⟩=some (Yp Yv 3):=aj vO.out 0;have x1:W.cell? ⟨w2.1.size,1,none⟩=some (Yq tb):=aj vO.out 1;have x2:W.cell? ⟨w2.1.size,2,none⟩=some (Yp Yv 0):=aj vO.out 2;have Uz:W.frozen? ⟨w2.1.size,2,none⟩=false:=bu vO.out 2;haveI:af w2.1.size W:=af.of (ae vO.out);haveI:af gb W:=af.of (Nat.lt_of_lt_of_le hgl' mK.out.size);have gX:=aa (mK.out.setCell (p:=⟨w2.1.size,2,none⟩) RY (Yp Yv oi));have jp:=aa (heap_setCell_same _ _ 2 _ _ (Yp Yv oi) vO.out);go_wp2_with fail;have kj:(W.setCell ⟨w2.1.size,2,none⟩ (Yp Yv oi)).1.size=W.1.size:=by simp
    generalize W.setCell ⟨w2.1.size,2,none⟩ (Yp Yv oi)=W9 at *;have c0:W9.cell? ⟨w2.1.size,0,none⟩=some (Yp Yv 3):=aj jp.out 0;have wj:=ae jp.out;refine(eg.out _ _ ?_ ?_).mono ?_
    ·exact((a7 lY.out rfl).ai gX.out).ai ((ac.refl _).alloc _)
    ·rw[<-mX];exact ej _ _ _ _ _ (by rw[<-kj];simp) (by rw[<-kj];simp) (by rw[<-kj,bo];simp) (by rw[<-kj];simp)
    clear kj;rintro e w3 ⟨v3,rfl,cZ,hu3⟩;obtain⟨A3,c3,rfl,_,_,_⟩:=aW cZ;have bj:ac wr w3:=gX.out.trans (ac.trans (uZ) hu3);have bt:=HU.out.trans bj
    by_cases hbad:512<g.length\/1024<=cuts.length
    ·have du:=aa (ld.out hbad);have hb':(512:Int)<(g.length:Int)\/(¬(512:Int)<(g.length:Int)/\(1024:Int)<=(cuts.length:Int)):=by omega
     clear ld dB hbad cZ hu3 bj c0;rcases hb' with z5|⟨z5,z6⟩
     all_goals
      go_wp2;refine bodyPost_ret (v:=Yu #[Yr none 0 0,Yr none 0 0,Yp Yv a,Yp Yv 3]) (by simp[results,Tryz.results63,go_sem]) rfl ?_;unfold fz;rw[du.out];exact⟨_,_,rfl,World.ownsRow_nil _ _ _ _,World.ownsRow_nil _ _ _ _,bt⟩
    have z5:¬((512:Int)<(g.length:Int)):=by omega
    have z6:¬((1024:Int)<=(cuts.length:Int)):=by omega
    have du:=aa (dB.out hbad);clear ld dB hbad;have hs4:=bj.size;have de:=aa (HU.out.trans bj);have gF:=aa (aH bj jJ.out);have qC:=aa (aH bj US.out);have ft:=aa (cT (base':=w.1.size) cZ (by have:=gX.out.size;simp;omega));have jL:∀x,(Yr A3 g.length c3).ownBlock=some x->wr.1.size<=x:=λx hx=>by have:=aD cZ x hx;have:=gX.out.size;simp at *;omega
    have hb3:=(hu3.below.block w2.1.size (by simp;omega)).trans ((fB _ _ _ wj).trans jp.out);have hc:w3.cell? ⟨w2.1.size,0,none⟩=some (.int .i64 3):=aj hb3 0;have hc1:w3.cell? ⟨w2.1.size,1,none⟩=some (.string tb):=aj hb3 1;have hc2:w3.cell? ⟨w2.1.size,2,none⟩=some (.int .i64 oi):=aj hb3 2;haveI:af w2.1.size w3:=af.of (ae hb3);have Cz:=aa jL;clear cZ hu3 jL hb3 c0 jp;go_wp2_with (at_builtin;refine wpList_append_own _ rfl _ _ 42 rfl w.1.size 3 i0 (.int .i64 0) 1 8 Tryz.underlying42 hi hz0 hz1 hz2 rfl (by decide) (.slice gJ cuts.length bK) cuts.length (fc cuts) rfl ?_ _ 1 1 [.int .i64 d] rfl rfl ?_ ?_ (by unfold maxLen;omega) (by omega) ?_ ?_)
    ·exact aH (uZ) gF.out
    ·exact gS _ _ _
    ·intro u hu';simp at hu';subst hu';rfl
    ·have:=de.out.size;simp;omega
    intro v' w5 fh ga _;rw[<-dF]at fh;have dS:=aa ((de.out.alloc _).grown ga (λg hg=>aD gF.out g hg));have hA:∀ {W:World} {v:Value} {n:Nat} {xs:List Value},ac w3 W->W.grownBy w5 (Yr gJ cuts.length bK).ownBlock->w3.ownsRow w.1.size 36 3 v n xs->w5.ownsRow w.1.size 36 3 v n xs:=λhW h5 hv=>(aH hW hv).kept h5 (da (aH hW hv) (aH hW gF.out) (by decide))
    have mQ:=aa (hA (uZ) ga ft.out);have rN:=aa (hA (uZ) ga qC.out);have fA:=aa fh;clear ga fh hA;go_wp2;have hm':=HM.out;subst hm';exact⟨⟨a+n,a+n,c,g,o1,cuts++[d],fuel,congrArg (Yp Yv) (by omega),congrArg (Yp Yv) (by omega),rfl,ph,by omega,mQ.out,by simpa using rN.out,by simpa using fA.out,jT.out,by omega,by omega,by simp;omega,by simp;omega,by simp;omega,(λo ho=>HS.out o (by simp[ho])),du.out,dS.out⟩,by simp[intOf];omega⟩
  have xT:a=raw.size:=by omega
  subst xT;have hnil:raw.1.1.drop raw.size=[]:=List.drop_of_length_le (by simp);have hd2:=HD.out;rw[hnil,St.gm]at hd2;unfold St.jK at hd2;have du:=aa hd2;obtain⟨A9,c9,rfl,_,_,hA9⟩:=aW hO9;obtain⟨gJ,bK,rfl,_,_,hA10⟩:=aW hO10;have la:=HU.out.size;clear hlt hD HD hu hnil hd2 hO8 hO9 hO10
  by_cases hop:op=[]
  rotate_left 1
  ·have z1:(0:Int)<(op.length:Int):=by have:=List.length_pos_iff.2 hop;omega
   have xc:=aa (show St.dv E raw.size raw.1.1 0 0 [] [] [] 0=([],[],raw.size,7)by rw[du.out,if_neg hop]);clear hop;go_wp2;refine bodyPost_ret (v:=Yu #[Yr none 0 0,Yr none 0 0,Yp Yv raw.size,Yp Yv 7]) (by simp[results,Tryz.results63,go_sem]) rfl ?_;unfold fz;rw[xc.out];exact⟨_,_,rfl,World.ownsRow_nil _ _ _ _,World.ownsRow_nil _ _ _ _,HU.out⟩
  subst hop;have xc:=aa (show St.dv E raw.size raw.1.1 0 0 [] [] [] 0=(f,cuts++[d],0,0)by rw[du.out,if_pos rfl]);simp only[List.length_nil];go_wp2_with (at_builtin;refine wpList_append_own _ rfl _ _ 42 rfl w.1.size 3 i0 (.int .i64 0) 1 8 Tryz.underlying42 hi hz0 hz1 hz2 rfl (by decide) (.slice gJ cuts.length bK) cuts.length (fc cuts) rfl ?_ _ 1 1 [.int .i64 d] rfl rfl ?_ ?_ (by unfold maxLen;omega) (by omega) ?_ ?_)
  any_goals (first|exact aH (uZ) jJ.out|exact gS _ _ _|(intro u hu';simp at hu';subst hu';rfl)|rfl|omega|(simp;omega))
  intro v' w5 fh ga _;rw[<-dF]at fh;have dS:=aa ((HU.out.alloc _).grown ga (λg hg=>aD jJ.out g hg));have hA:∀ {W:World} {v:Value},ac wr W->W.grownBy w5 (Yr gJ cuts.length bK).ownBlock->wr.ownsRow w.1.size 36 3 v f.length (ak f)->w5.ownsRow w.1.size 36 3 v f.length (ak f):=λhW h5 hv=>(aH hW hv).kept h5 (da (aH hW hv) (aH hW jJ.out) (by decide))
  have mQ:=aa (hA (uZ) ga lY.out);have fA:=aa fh;clear ga fh hA;go_wp2;refine bodyPost_ret (v:=Yu #[_,v',Yp Yv 0,Yp Yv 0]) (by simp[results,Tryz.results63,go_sem];rfl) rfl ?_;unfold fz;rw[xc.out];exact⟨_,_,rfl,mQ.out,by simpa using fA.out,dS.out⟩
