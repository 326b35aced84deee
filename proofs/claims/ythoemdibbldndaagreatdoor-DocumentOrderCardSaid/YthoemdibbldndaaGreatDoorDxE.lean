/- The contracts of resource.Encode and sheet.Encode: what they give is St.encS. -/
import Derived.Test.YthoemdibbldndaaGreatDoorDcF
import Derived.Test.YthoemdibbldndaaGreatDoorRpp
set_option linter.all false
set_option maxHeartbeats 0
set_option maxRecDepth 20000
open Go.Value renaming int->Yp,string->Yq,slice->Yr,tuple->Yu
open Go.IntKind renaming i64->Yv
open Go.Obj renaming cells->Yw
open Go.Ending renaming returned->Yx
open Go renaming World->YA
namespace Go.Proofs.YthoemdibbldndaaGreatDoor
open Go.RowKit
section
def j1:List (UInt8 × ByteArray):=[(10,⟨#[92,110]⟩),(9,⟨#[92,116]⟩),(13,⟨#[92,114]⟩),(92,⟨#[92,92]⟩),(123,⟨#[92,123]⟩)]
theorem Sn:tM j1:=⟨by decide,by decide,by intro p hp;simp[j1]at hp;rcases hp with rfl|rfl|rfl|rfl|rfl<;>decide,by decide⟩
theorem PX(c:UInt8):fj j1.reverse c=St.bl 2 c:=by
 by_cases h0:c=10
 ·subst h0;rfl
 by_cases h1:c=9
 ·subst h1;rfl
 by_cases h2:c=13
 ·subst h2;rfl
 by_cases h3:c=92
 ·subst h3;rfl
 by_cases h4:c=123
 ·subst h4;rfl
 have e0:c.toNat≠10:=λe=>h0 (UInt8.toNat_inj.1 e)
 have e1:c.toNat≠9:=λe=>h1 (UInt8.toNat_inj.1 e)
 have e2:c.toNat≠13:=λe=>h2 (UInt8.toNat_inj.1 e)
 have e3:c.toNat≠92:=λe=>h3 (UInt8.toNat_inj.1 e)
 have e4:c.toNat≠123:=λe=>h4 (UInt8.toNat_inj.1 e)
 have:cE j1.reverse c=none:=by
  show cE [(123,⟨#[92,123]⟩),(92,⟨#[92,92]⟩),(13,⟨#[92,114]⟩),(9,⟨#[92,116]⟩),(10,⟨#[92,110]⟩)] c=none
  simp[cE,Ne.symm h0,Ne.symm h1,Ne.symm h2,Ne.symm h3,Ne.symm h4]
 rw[lW this];simp[St.bl,e0,e1,e2,e3,e4]
theorem Mv(t:List UInt8):t.flatMap (fj j1.reverse)=t.flatMap (St.bl 2):=by
 congr 1;funext c;exact PX c
def Jr(w0:YA)(B rb:Nat)(f:List St.It)(n:Nat)(s6 kA:Value)(wr:YA):Prop:=
 ∃(k:Nat) (u:ByteArray),k<=n/\kA=Yp Yv k/\s6=Yq u/\u.1.1=(f.take k).flatMap (St.aL 2)/\u.size<=5*aY (f.take k)+5*k/\(f.take k).any (St.bA 2)=false/\gT wr B rb j1/\Below B w0 wr
theorem FF(A:Option Addr)(n c:Nat)(f:List St.It)(w:YA)(hn:f.length=n)(hnc:n<=c)(dq:c<=9223372036854775807)(h:aJ w A f)(hl:n<=1000000000)(ht:aY f<=1000000000000) :
  Calls Tryz.prog 40 #[Yr A n c] w λe w'=>e=Yx (Yu #[Yq ⟨(St.bn 2 f).1.toArray⟩,Yp Yv (St.bn 2 f).2])/\ac w w':=by
 have H:=aa h;have HN:=aa hn;have HT:=aa ht;have hv:=aa (si A n c f w hn hnc dq h (by omega) (by omega));clear h hn
 by_cases dW:St.bP f=0
 rotate_left 1
 ·have hr:=aa (show St.bn 2 f=([],St.bP f)by unfold St.bn;rw[if_pos dW]);have z:(St.bP f==0)=false:=by simpa using dW
  have z2:(St.bP f != 0)=true:=by simpa using dW
  generalize St.bP f=ev at *;clear dW;go_enter Tryz.func40,Tryz.ntmps40;go_wp2_with fail;refine hv.out.mono ?_;rintro e w' ⟨rfl,hu⟩;have HU:=aa hu;clear hu;go_wp2;go_ret2;exact⟨by rw[hr.out];rfl,HU.out⟩
 have hok:=λ(h:f.any (St.bA 2)=false)=>show St.bn 2 f=(f.flatMap (St.aL 2),0)by unfold St.bn;rw[if_neg (by simp[dW]),h];rfl
 have hbad:=λ(h:f.any (St.bA 2)=true)=>show St.bn 2 f=([],7)by unfold St.bn;rw[if_neg (by simp[dW]),h];rfl
 have hlen:St.aA f<=1024:=by
  refine Nat.not_lt.1 λe=>?_
  unfold St.bP at dW;rw[if_pos (.inr e)]at dW;cases dW
 have dr:=sS dW;have Jx:=aa dr;clear dr;rw[dW]at hv;have xj:=aa hok;have iO:=aa hbad;have HLEN:=aa hlen;clear hok hbad dW ht hlen;go_enter Tryz.func40,Tryz.ntmps40;go_wp2_with fail;refine hv.out.mono ?_;rintro e w1 ⟨rfl,hu⟩;have gj:=aa hu;have DI:=hu.size;clear hu hv;have Bk:=λ(W:YA) (ab:Nat) (hc:∀j u,((dI j1).map Yq)[j]?=some u->W.cell? ⟨ab,j,none⟩=some u)=>sq ab 10 (dI j1) W rfl (by decide) (by omega) hc
 have Ap:=aa Bk;clear Bk;go_wp2_with fail;refine(Ap.out _ w1.1.size ?_).mono ?_
 ·intro j u hj
  match j,hj with
  | 0,hj=>simp[dI,j1]at hj;subst hj;simp
  | 1,hj=>simp[dI,j1]at hj;subst hj;simp
  | 2,hj=>simp[dI,j1]at hj;subst hj;simp
  | 3,hj=>simp[dI,j1]at hj;subst hj;simp
  | 4,hj=>simp[dI,j1]at hj;subst hj;simp
  | 5,hj=>simp[dI,j1]at hj;subst hj;simp
  | 6,hj=>simp[dI,j1]at hj;subst hj;simp
  | 7,hj=>simp[dI,j1]at hj;subst hj;simp
  | 8,hj=>simp[dI,j1]at hj;subst hj;simp
  | 9,hj=>simp[dI,j1]at hj;subst hj;simp
  | j+10,hj=>simp[dI,j1]at hj
 rintro e w2 ⟨rb,rfl,hrep,hu2⟩;have mh:Below (w1.alloc (Yw #[Yq ⟨#[10]⟩,Yq ⟨#[92,110]⟩,Yq ⟨#[9]⟩,Yq ⟨#[92,116]⟩,Yq ⟨#[13]⟩,Yq ⟨#[92,114]⟩,Yq ⟨#[92]⟩,Yq ⟨#[92,92]⟩,Yq ⟨#[123]⟩,Yq ⟨#[92,123]⟩] 9)).1.size (w1.alloc (Yw #[Yq ⟨#[10]⟩,Yq ⟨#[92,110]⟩,Yq ⟨#[9]⟩,Yq ⟨#[92,116]⟩,Yq ⟨#[13]⟩,Yq ⟨#[92,114]⟩,Yq ⟨#[92]⟩,Yq ⟨#[92,92]⟩,Yq ⟨#[123]⟩,Yq ⟨#[92,123]⟩] 9)) w2:=hu2.below;have pr:ac w (w1.alloc (Yw #[Yq ⟨#[10]⟩,Yq ⟨#[92,110]⟩,Yq ⟨#[9]⟩,Yq ⟨#[92,116]⟩,Yq ⟨#[13]⟩,Yq ⟨#[92,114]⟩,Yq ⟨#[92]⟩,Yq ⟨#[92,92]⟩,Yq ⟨#[123]⟩,Yq ⟨#[92,123]⟩] 9)):=gj.out.alloc _;generalize(w1.alloc (Yw #[Yq ⟨#[10]⟩,Yq ⟨#[92,110]⟩,Yq ⟨#[9]⟩,Yq ⟨#[92,116]⟩,Yq ⟨#[13]⟩,Yq ⟨#[92,114]⟩,Yq ⟨#[92]⟩,Yq ⟨#[92,92]⟩,Yq ⟨#[123]⟩,Yq ⟨#[92,123]⟩] 9))=w1' at hrep hu2 mh pr;have Bb:w1'.1.size<=w2.1.size:=hu2.size;have CP:=aa pr;have qe:gT w2 w1'.1.size rb j1:=.inl hrep;have oL:=aa qe;have oH:=aa mh;clear hrep hu2 mh pr qe gj DI Ap;generalize hB:w1'.1.size=B at oL oH Bb;go_wp2_with fail;go_loopw [6,18] (λs6 kA wr=>Jr w1' B rb f n s6 kA wr/\B<=wr.1.size) (λ_ kA _=>n+1-(intOf kA).toNat)
 case atStart=>exact⟨⟨0,⟨#[]⟩,by omega,rfl,rfl,rfl,by show 0<=_;omega,rfl,oL.out,oH.out⟩,Bb⟩
 case round=>
  obtain⟨⟨k,u,hk,rfl,rfl,mM,jl,gH,jE,hbl⟩,hBr⟩:=hrel;have pS:=aa jE;have dd:=aa hbl;have Bn:ac w1' wr:=ac.cy (by rw[hB];exact hbl);have HU:=aa (CP.out.trans Bn);have oM:=aa mM;have mG:=aa gH;clear mM gH jE hbl Bn oL oH;have hN:=HN.out;have hT:=HT.out;have hb2:=fO f k
  by_cases hlt:k<n
  ·have aO:k<f.length:=by omega
   obtain⟨b,off,rfl,hb,hc⟩:=(H.out.ai HU.out) (by omega);obtain⟨c0,c1,c2⟩:=hc k aO;have hfl:=vc 2 f k aO;have hb3:=fO f (k+1);have htk:=jB f k aO;have hwd:=zN f k aO;have hL:=HLEN.out;have dr:=Jx.out f[k] (List.getElem_mem aO);have lv:=rS (St.bA 2) f k aO mG.out;have eU:=pU (St.bA 2) f k aO;generalize f[k]=x at c0 c1 c2 hfl htk lv eU hwd dr;obtain⟨kd,tx,id⟩:=x;simp only at c0 c1 c2 htk hwd dr;haveI:af b wr:=af.of hb;have oc:(⟨tx.toArray⟩:ByteArray).size=tx.length:=by show tx.toArray.size=_;simp
   have step:∀(v:ByteArray) (W:YA),v.1.1=u.1.1++St.aL 2 (kd,tx,id)->v.size<=u.size+5*tx.length+5->St.bA 2 (kd,tx,id)=false->gT W B rb j1->Below B wr W->Jr w1' B rb f n (Yq v) (Yp Yv ((k:Int)+1)) W:=λv W h1 h2 h3 h4 h5=>
    ⟨k+1,v,by omega,congrArg (Yp Yv) (by omega),rfl,by rw[h1,oM.out,hfl],by rw[htk];omega,lv h3,h4,dd.out.trans h5⟩
   have STEP:=aa step;have iF:=aa eU;have n4:=aa htk;have MX:u.size<=6000000000000:=by omega
   have MW:tx.length<=1000000000000:=by omega
   clear step eU hfl lv hc aO
   by_cases k1:kd=1
   ·subst k1;have htl:tx.length<=1024:=by have:=hwd rfl;omega
    have hre:=λ(W:YA) (hR:gT W B rb j1) (hB:B<=W.1.size)=>qQ B rb j1 ⟨tx.toArray⟩ W hR Sn hB (by omega)
    have hf2:(⟨tx.toArray⟩:ByteArray).1.1.flatMap (fj j1.reverse)=tx.flatMap (St.bl 2):=Mv tx;rw[hf2]at hre;have Dz:=Dd 2 tx;have hnb:=aa (show St.bA 2 (1,tx,id)=false by unfold St.bA;rfl);have th:St.aL 2 (1,tx,id)=tx.flatMap (St.bl 2):=by unfold St.aL;rfl
    have Ai:=aa th;generalize tx.flatMap (St.bl 2)=et at hre Dz Ai;have ti:(⟨et.toArray⟩:ByteArray).size=et.length:=by show et.toArray.size=_;simp
    have y1:¬9223372036854775807<u.size+(⟨et.toArray⟩:ByteArray).size:=by rw[ti];omega
    have y2:¬9223372036854775807<u.size+et.length:=by omega
    have JF:=aa hre;have dj:(wr.alloc (Yw #[Yp Yv 1,Yq ⟨tx.toArray⟩,Yp Yv id] 36)).1.size=wr.1.size+1:=by simp
    clear hre hf2 th hwd;go_wp2_with fail;refine(JF.out _ (pS.out.ai ((ac.refl _).alloc _)) (by rw[dj];omega)).mono ?_;rintro e w3 ⟨rfl,hr3,hb3'⟩;have mi:Below B wr w3:=(Below.ai (Below.refl _ _) hBr ((ac.refl wr).alloc _)).trans hb3';have hfin:=aa (STEP.out (u++(⟨et.toArray⟩:ByteArray)) w3 (by rw[Ai.out];simp) (by rw[ByteArray.size_append,ti];omega) hnb.out (.inr hr3) mi);have Bc:=mi.size;clear hr3 hb3' mi c0 c1 c2;go_wp2;exact⟨⟨hfin.out,by omega⟩,by simp[intOf];omega⟩
   have q1:(kd==1)=false:=by simpa using k1
   by_cases k5:kd=5
   ·subst k5;have hnb:=aa (show St.bA 2 (5,tx,id)=false by unfold St.bA St.aQ;rfl);have y1:¬9223372036854775807<1+tx.length:=by omega
    have y2:¬9223372036854775807<1+tx.length+1:=by omega
    have y3:¬9223372036854775807<u.size+(1+tx.length+1):=by omega
    have hfin:=λW (hW:ac wr W)=>STEP.out (u++((⟨#[123]⟩:ByteArray)++(⟨tx.toArray⟩:ByteArray)++(⟨#[125]⟩:ByteArray))) W (by unfold St.aL;simp) (by simp only[ByteArray.size_append,oc];show _+(1+_+1)<=_;omega) hnb.out (pS.out.ai hW) (Below.ai (Below.refl _ _) hBr hW)
    have hsz:=λW (hW:ac wr W)=>Nat.le_trans hBr hW.size
    have dA:=aa (λW hW=>And.intro (hfin W hW) (hsz W hW));clear hfin hwd k1 hsz;go_wp2;exact⟨dA.out _ uZ,by simp[intOf];omega⟩
   have q5:(kd==5)=false:=by simpa using k5
   have cW:St.aQ kd=true:=by
    rcases dr with h|h|h
    ·exact absurd h k1
    ·exact absurd h k5
    exact h
   have lh:=iF.out (show St.bA 2 (kd,tx,id)=true by unfold St.bA;simp[cW]);have hr:=aa (iO.out lh);clear lh cW dr k1 k5 hwd;go_wp2;go_ret2;exact⟨by rw[hr.out];rfl,HU.out.trans uZ⟩
  have hkn:k=n:=by omega
  subst hkn;have hft:f.take k=f:=List.take_of_length_le (by omega);rw[hft]at oM mG;have hr:=aa (xj.out mG.out);have hu2:u=⟨(f.flatMap (St.aL 2)).toArray⟩:=by rw[<-oM.out,bo]
  have aX:=aa hu2;clear hlt hft hu2 mG;go_wp2;go_ret2;exact⟨by rw[hr.out,aX.out];rfl,HU.out⟩
def mN:List (UInt8 × ByteArray):=[(34,⟨#[34,34]⟩),(123,⟨#[123,123]⟩)]
theorem So:tM mN:=⟨by decide,by decide,by intro p hp;simp[mN]at hp;rcases hp with rfl|rfl<;>decide,by decide⟩
theorem Li(c:UInt8):fj mN.reverse c=St.bl 3 c:=by
 by_cases h1:c=34
 ·subst h1;rfl
 by_cases h2:c=123
 ·subst h2;rfl
 have e1:c.toNat≠34:=λe=>h1 (UInt8.toNat_inj.1 e)
 have e2:c.toNat≠123:=λe=>h2 (UInt8.toNat_inj.1 e)
 have:cE mN.reverse c=none:=by
  show cE [(123,⟨#[123,123]⟩),(34,⟨#[34,34]⟩)] c=none
  simp[cE,Ne.symm h1,Ne.symm h2]
 rw[lW this];simp[St.bl,e1,e2]
theorem Hz(t:List UInt8):t.flatMap (fj mN.reverse)=t.flatMap (St.bl 3):=by
 congr 1;funext c;exact Li c
def Js(w0:YA)(B rb:Nat)(f:List St.It)(n:Nat)(s6 kA:Value)(wr:YA):Prop:=
 ∃(k:Nat) (u:ByteArray),k<=n/\kA=Yp Yv k/\s6=Yq u/\u.1.1=(f.take k).flatMap (St.aL 3)/\u.size<=5*aY (f.take k)+5*k/\(f.take k).any (St.bA 3)=false/\gT wr B rb mN/\Below B w0 wr
theorem Fy(A:Option Addr)(n c:Nat)(f:List St.It)(w:YA)(hn:f.length=n)(hnc:n<=c)(dq:c<=9223372036854775807)(h:aJ w A f)(hl:n<=1000000000)(ht:aY f<=1000000000000) :
  Calls Tryz.prog 90 #[Yr A n c] w λe w'=>e=Yx (Yu #[Yq ⟨(St.bn 3 f).1.toArray⟩,Yp Yv (St.bn 3 f).2])/\ac w w':=by
 have H:=aa h;have HN:=aa hn;have HT:=aa ht;have hv:=aa (si A n c f w hn hnc dq h (by omega) (by omega));clear h hn
 by_cases dW:St.bP f=0
 rotate_left 1
 ·have hr:=aa (show St.bn 3 f=([],St.bP f)by unfold St.bn;rw[if_pos dW]);have z:(St.bP f==0)=false:=by simpa using dW
  have z2:(St.bP f != 0)=true:=by simpa using dW
  generalize St.bP f=ev at *;clear dW;go_enter Tryz.func90,Tryz.ntmps90;go_wp2_with fail;refine hv.out.mono ?_;rintro e w' ⟨rfl,hu⟩;have HU:=aa hu;clear hu;go_wp2;go_ret2;exact⟨by rw[hr.out];rfl,HU.out⟩
 have hok:=λ(h:f.any (St.bA 3)=false)=>show St.bn 3 f=(f.flatMap (St.aL 3),0)by unfold St.bn;rw[if_neg (by simp[dW]),h];rfl
 have hbad:=λ(h:f.any (St.bA 3)=true)=>show St.bn 3 f=([],7)by unfold St.bn;rw[if_neg (by simp[dW]),h];rfl
 have hlen:St.aA f<=1024:=by
  refine Nat.not_lt.1 λe=>?_
  unfold St.bP at dW;rw[if_pos (.inr e)]at dW;cases dW
 have dr:=sS dW;have Jx:=aa dr;clear dr;rw[dW]at hv;have xj:=aa hok;have iO:=aa hbad;have HLEN:=aa hlen;clear hok hbad dW ht hlen;go_enter Tryz.func90,Tryz.ntmps90;go_wp2_with fail;refine hv.out.mono ?_;rintro e w1 ⟨rfl,hu⟩;have gj:=aa hu;have DI:=hu.size;clear hu hv;have Bk:=λ(W:YA) (ab:Nat) (hc:∀j u,((dI mN).map Yq)[j]?=some u->W.cell? ⟨ab,j,none⟩=some u)=>sq ab 4 (dI mN) W rfl (by decide) (by omega) hc
 have Ap:=aa Bk;clear Bk;go_wp2_with fail;refine(Ap.out _ w1.1.size ?_).mono ?_
 ·intro j u hj
  match j,hj with
  | 0,hj=>simp[dI,mN]at hj;subst hj;simp
  | 1,hj=>simp[dI,mN]at hj;subst hj;simp
  | 2,hj=>simp[dI,mN]at hj;subst hj;simp
  | 3,hj=>simp[dI,mN]at hj;subst hj;simp
  | j+4,hj=>simp[dI,mN]at hj
 rintro e w2 ⟨rb,rfl,hrep,hu2⟩;have mh:Below (w1.alloc (Yw #[Yq ⟨#[34]⟩,Yq ⟨#[34,34]⟩,Yq ⟨#[123]⟩,Yq ⟨#[123,123]⟩] 9)).1.size (w1.alloc (Yw #[Yq ⟨#[34]⟩,Yq ⟨#[34,34]⟩,Yq ⟨#[123]⟩,Yq ⟨#[123,123]⟩] 9)) w2:=hu2.below;have pr:ac w (w1.alloc (Yw #[Yq ⟨#[34]⟩,Yq ⟨#[34,34]⟩,Yq ⟨#[123]⟩,Yq ⟨#[123,123]⟩] 9)):=gj.out.alloc _;generalize(w1.alloc (Yw #[Yq ⟨#[34]⟩,Yq ⟨#[34,34]⟩,Yq ⟨#[123]⟩,Yq ⟨#[123,123]⟩] 9))=w1' at hrep hu2 mh pr;have Bb:w1'.1.size<=w2.1.size:=hu2.size;have CP:=aa pr;have qe:gT w2 w1'.1.size rb mN:=.inl hrep;have oL:=aa qe;have oH:=aa mh;clear hrep hu2 mh pr qe gj DI Ap;generalize hB:w1'.1.size=B at oL oH Bb;go_wp2_with fail;go_loopw [6,18] (λs6 kA wr=>Js w1' B rb f n s6 kA wr/\B<=wr.1.size) (λ_ kA _=>n+1-(intOf kA).toNat)
 case atStart=>exact⟨⟨0,⟨#[]⟩,by omega,rfl,rfl,rfl,by show 0<=_;omega,rfl,oL.out,oH.out⟩,Bb⟩
 case round=>
  obtain⟨⟨k,u,hk,rfl,rfl,mM,jl,gH,jE,hbl⟩,hBr⟩:=hrel;have pS:=aa jE;have dd:=aa hbl;have Bn:ac w1' wr:=ac.cy (by rw[hB];exact hbl);have HU:=aa (CP.out.trans Bn);have oM:=aa mM;have mG:=aa gH;clear mM gH jE hbl Bn oL oH;have hN:=HN.out;have hT:=HT.out;have hb2:=fO f k
  by_cases hlt:k<n
  ·have aO:k<f.length:=by omega
   obtain⟨b,off,rfl,hb,hc⟩:=(H.out.ai HU.out) (by omega);obtain⟨c0,c1,c2⟩:=hc k aO;have hfl:=vc 3 f k aO;have hb3:=fO f (k+1);have htk:=jB f k aO;have hwd:=zN f k aO;have hL:=HLEN.out;have dr:=Jx.out f[k] (List.getElem_mem aO);have lv:=rS (St.bA 3) f k aO mG.out;have eU:=pU (St.bA 3) f k aO;generalize f[k]=x at c0 c1 c2 hfl htk lv eU hwd dr;obtain⟨kd,tx,id⟩:=x;simp only at c0 c1 c2 htk hwd dr;haveI:af b wr:=af.of hb;have oc:(⟨tx.toArray⟩:ByteArray).size=tx.length:=by show tx.toArray.size=_;simp
   have step:∀(v:ByteArray) (W:YA),v.1.1=u.1.1++St.aL 3 (kd,tx,id)->v.size<=u.size+5*tx.length+5->St.bA 3 (kd,tx,id)=false->gT W B rb mN->Below B wr W->Js w1' B rb f n (Yq v) (Yp Yv ((k:Int)+1)) W:=λv W h1 h2 h3 h4 h5=>
    ⟨k+1,v,by omega,congrArg (Yp Yv) (by omega),rfl,by rw[h1,oM.out,hfl],by rw[htk];omega,lv h3,h4,dd.out.trans h5⟩
   have STEP:=aa step;have iF:=aa eU;have n4:=aa htk;have MX:u.size<=6000000000000:=by omega
   have MW:tx.length<=1000000000000:=by omega
   clear step eU hfl lv hc aO
   by_cases k1:kd=1
   ·subst k1;have htl:tx.length<=1024:=by have:=hwd rfl;omega
    have hre:=λ(W:YA) (hR:gT W B rb mN) (hB:B<=W.1.size)=>qQ B rb mN ⟨tx.toArray⟩ W hR So hB (by omega)
    have hf2:(⟨tx.toArray⟩:ByteArray).1.1.flatMap (fj mN.reverse)=tx.flatMap (St.bl 3):=Hz tx;rw[hf2]at hre;have Dz:=Dd 3 tx;have hnb:=aa (show St.bA 3 (1,tx,id)=false by unfold St.bA;rfl);have th:St.aL 3 (1,tx,id)=tx.flatMap (St.bl 3):=by unfold St.aL;rfl
    have Ai:=aa th;generalize tx.flatMap (St.bl 3)=et at hre Dz Ai;have ti:(⟨et.toArray⟩:ByteArray).size=et.length:=by show et.toArray.size=_;simp
    have y1:¬9223372036854775807<u.size+(⟨et.toArray⟩:ByteArray).size:=by rw[ti];omega
    have y2:¬9223372036854775807<u.size+et.length:=by omega
    have JF:=aa hre;have dj:(wr.alloc (Yw #[Yp Yv 1,Yq ⟨tx.toArray⟩,Yp Yv id] 36)).1.size=wr.1.size+1:=by simp
    clear hre hf2 th hwd;go_wp2_with fail;refine(JF.out _ (pS.out.ai ((ac.refl _).alloc _)) (by rw[dj];omega)).mono ?_;rintro e w3 ⟨rfl,hr3,hb3'⟩;have mi:Below B wr w3:=(Below.ai (Below.refl _ _) hBr ((ac.refl wr).alloc _)).trans hb3';have hfin:=aa (STEP.out (u++(⟨et.toArray⟩:ByteArray)) w3 (by rw[Ai.out];simp) (by rw[ByteArray.size_append,ti];omega) hnb.out (.inr hr3) mi);have Bc:=mi.size;clear hr3 hb3' mi c0 c1 c2;go_wp2;exact⟨⟨hfin.out,by omega⟩,by simp[intOf];omega⟩
   have q1:(kd==1)=false:=by simpa using k1
   by_cases k5:kd=5
   ·subst k5;have hnb:=aa (show St.bA 3 (5,tx,id)=false by unfold St.bA St.aQ;rfl);have y1:¬9223372036854775807<1+tx.length:=by omega
    have y2:¬9223372036854775807<1+tx.length+1:=by omega
    have y3:¬9223372036854775807<u.size+(1+tx.length+1):=by omega
    have hfin:=λW (hW:ac wr W)=>STEP.out (u++((⟨#[123]⟩:ByteArray)++(⟨tx.toArray⟩:ByteArray)++(⟨#[125]⟩:ByteArray))) W (by unfold St.aL;simp) (by simp only[ByteArray.size_append,oc];show _+(1+_+1)<=_;omega) hnb.out (pS.out.ai hW) (Below.ai (Below.refl _ _) hBr hW)
    have hsz:=λW (hW:ac wr W)=>Nat.le_trans hBr hW.size
    have dA:=aa (λW hW=>And.intro (hfin W hW) (hsz W hW));clear hfin hwd k1 hsz;go_wp2;exact⟨dA.out _ uZ,by simp[intOf];omega⟩
   have q5:(kd==5)=false:=by simpa using k5
   have cW:St.aQ kd=true:=by
    rcases dr with h|h|h
    ·exact absurd h k1
    ·exact absurd h k5
    exact h
   have lh:=iF.out (show St.bA 3 (kd,tx,id)=true by unfold St.bA;simp[cW]);have hr:=aa (iO.out lh);clear lh cW dr k1 k5 hwd;go_wp2;go_ret2;exact⟨by rw[hr.out];rfl,HU.out.trans uZ⟩
  have hkn:k=n:=by omega
  subst hkn;have hft:f.take k=f:=List.take_of_length_le (by omega);rw[hft]at oM mG;have hr:=aa (xj.out mG.out);have hu2:u=⟨(f.flatMap (St.aL 3)).toArray⟩:=by rw[<-oM.out,bo]
  have aX:=aa hu2;clear hlt hft hu2 mG;go_wp2;go_ret2;exact⟨by rw[hr.out,aX.out];rfl,HU.out⟩
end
section
theorem Mx(d:ByteArray)(w:YA)(hd:d.size<=1000000000):Calls Tryz.prog 49 #[Yp Yv 2,Yq d] w (Mk.eY (D2 d.1.1) w):=by
 have H:=aa (LX d w (by omega));have hR:jc d=D2 d.1.1:=by unfold jc D2;rw[St.aB]
 rw[hR]at H;generalize D2 d.1.1=R at *;obtain⟨f,cu,pl,er⟩:=R;clear hR;go_enter Tryz.func49,Tryz.ntmps49;go_wp2_with fail;refine H.out.mono ?_;rintro e w' ⟨A,c,rfl,hP,h1,h2,hu⟩;have HE:=aa (show Mk.eY (f,cu,pl,er) w (Yx (Yu #[Yr A cu.length c,Yp Yv er])) w' from⟨A,c,rfl,hP,h1,h2,hu⟩);clear hP h1 h2 hu;go_wp2;go_ret2;exact HE.out
theorem My(d:ByteArray)(w:YA)(hd:d.size<=1000000000):Calls Tryz.prog 49 #[Yp Yv 3,Yq d] w (Mk.eY (D3 d.1.1) w):=by
 have H:=aa (Sh.Lu d w (by omega));have hR:Sh.gC d=D3 d.1.1:=by unfold Sh.gC D3;rw[St.aB]
 rw[hR]at H;generalize D3 d.1.1=R at *;obtain⟨f,cu,pl,er⟩:=R;clear hR;go_enter Tryz.func49,Tryz.ntmps49;go_wp2_with fail;refine H.out.mono ?_;rintro e w' ⟨A,c,rfl,hP,h1,h2,hu⟩;have HE:=aa (show Mk.eY (f,cu,pl,er) w (Yx (Yu #[Yr A cu.length c,Yp Yv er])) w' from⟨A,c,rfl,hP,h1,h2,hu⟩);clear hP h1 h2 hu;go_wp2;go_ret2;exact HE.out
theorem H7(A:Option Addr)(n c:Nat)(f:List St.It)(w:YA)(hn:f.length=n)(hnc:n<=c)(dq:c<=9223372036854775807)(h:aJ w A f)(hl:n<=1000000000)(ht:aY f<=1000000000000) :
  Calls Tryz.prog 50 #[Yp Yv 2,Yr A n c] w λe w'=>e=Yx (Yu #[Yq ⟨(St.bn 2 f).1.toArray⟩,Yp Yv (St.bn 2 f).2])/\ac w w':=by
 have H:=aa (FF A n c f w hn hnc dq h hl ht);generalize St.bn 2 f=R at *;obtain⟨s,er⟩:=R;clear h hn ht;go_enter Tryz.func50,Tryz.ntmps50;go_wp2_with fail;refine H.out.mono ?_;rintro e w' ⟨rfl,hu⟩;have HU:=aa hu;clear hu;go_wp2;go_ret2;exact⟨rfl,HU.out⟩
theorem H8(A:Option Addr)(n c:Nat)(f:List St.It)(w:YA)(hn:f.length=n)(hnc:n<=c)(dq:c<=9223372036854775807)(h:aJ w A f)(hl:n<=1000000000)(ht:aY f<=1000000000000) :
  Calls Tryz.prog 50 #[Yp Yv 3,Yr A n c] w λe w'=>e=Yx (Yu #[Yq ⟨(St.bn 3 f).1.toArray⟩,Yp Yv (St.bn 3 f).2])/\ac w w':=by
 have H:=aa (Fy A n c f w hn hnc dq h hl ht);generalize St.bn 3 f=R at *;obtain⟨s,er⟩:=R;clear h hn ht;go_enter Tryz.func50,Tryz.ntmps50;go_wp2_with fail;refine H.out.mono ?_;rintro e w' ⟨rfl,hu⟩;have HU:=aa hu;clear hu;go_wp2;go_ret2;exact⟨rfl,HU.out⟩
theorem SH(l:List UInt8):D2 l=St.eP St.ch l 0 0 [] [] [] 0:=by
 unfold D2 St.eP;exact(St.rW (λl k t n h=>by have:=(St.jd h).1;omega) _ _ _ _ _ _ _).symm
theorem SI(l:List UInt8):D3 l=St.eP St.cx l 0 0 [] [] [] 0:=by
 unfold D3 St.eP;refine(St.rW (λl k t n h=>?_) _ _ _ _ _ _ _).symm
 match l,h with
 | c :: r,h=>rcases St.nz h with⟨h,_⟩|⟨h,_⟩<;>omega
theorem xH{fmt:Int}(h:fmt=1\/fmt=2\/fmt=3)(l:List UInt8):jN fmt l=St.eP (St.FG fmt) l 0 0 [] [] [] 0:=by
 rcases h with rfl|rfl|rfl
 ·rfl
 ·exact SH l
 exact SI l
theorem Da{fmt:Int}(h:fmt=1\/fmt=2\/fmt=3)(d:List UInt8)(he:(jN fmt d).2.2.2=0):St.wY d.length (jN fmt d):=by
 rw[xH h]at he |-;unfold St.eP at he |-;exact St.zuz (St.zv h).ok d.length d 0 0 [] [] [] 0 (by constructor) (by simp) rfl (by simp) (by simp) (by omega) (by omega) (by simp[aY]) he
theorem U2(fmt:Int)(w:YA)(h:fmt=1\/fmt=2\/fmt=3)(hL:Mk.jU w):mP w fmt (jN fmt) (oQ fmt):=by
 rcases h with rfl|rfl|rfl
 ·exact Q4 w hL
 ·exact⟨.inr (.inl rfl),λd w' hw hd=>(WU w).2 d w' hw hd,λd w' _ hd=>xF d w' hd,λd w' _ hd=>Mx d w' hd,λA n c f w' _ hn hnc hc h hl ht=>H7 A n c f w' hn hnc hc h hl ht,λd h=>Da (.inr (.inl rfl)) d h⟩
 exact⟨.inr (.inr rfl),λd w' hw hd=>(WV w hL.1).2 d w' hw hd,λd w' _ hd=>xG d w' hd,λd w' _ hd=>My d w' hd,λA n c f w' _ hn hnc hc h hl ht=>H8 A n c f w' hn hnc hc h hl ht,λd h=>Da (.inr (.inr rfl)) d h⟩
namespace St
theorem Hp{b:List It}{x:It}(h:bi b x=0)(h1:x.1≠1):x.2.1.length<=64:=by
 unfold bi at h;rw[if_neg h1]at h
 split at h
 ·split at h
  ·rename_i hn;have:=(sn hn.1).1;omega
  cases h
 split at h
 ·split at h
  ·rename_i hn
   have:=hn.1
   unfold aM at this;simp only[Bool.and_eq_true,decide_eq_true_eq]at this;exact this.1
  cases h
 split at h
 ·split at h
  ·rename_i hn;have:=(sn hn.1).1;omega
  cases h
 cases h
theorem AZ:∀(f b:List It),db b f=0->∀x∈f,x.1≠1->x.2.1.length<=64
 | y :: f,b,h,x,hx,h1=>by
  rw[db]at h
  split at h
  ·rename_i hc;exact absurd h hc
  rename_i hc
  rcases List.mem_cons.1 hx with rfl|hx
  ·exact Hp (by simpa using hc) h1
  exact AZ f _ h x hx h1
theorem F4(fmt:Int):∀f:List It,(∀x∈f,x.1≠1->x.2.1.length<=64)->(f.flatMap (aL fmt)).length<=5*aA f+67*f.length
 | [],_=>by simp
 | x :: f,h=>by
  have ih:=F4 fmt f λy hy=>h y (by simp[hy])
  rw[List.flatMap_cons,List.length_append,List.length_cons];have e:aA (x :: f)=aV x+aA f:=by simp[aA]
  have hb:∀t:List UInt8,(t.flatMap (bl fmt)).length<=5*t.length:=λt=>by
   induction t with
   | nil=>simp
   | cons c t ih=>rw[List.flatMap_cons,List.length_append,List.length_cons];have:=(lu fmt c).2;omega
  have hx:(aL fmt x).length<=5*aV x+67:=by
   unfold aL aV
   split
   ·have:=hb x.2.1;omega
   rename_i h1
   have:=h x (by simp) h1
   repeat' split
   all_goals simp
   all_goals omega
  omega
theorem J3(fmt:Int)(f:List It):(bn fmt f).1.length<=40000:=by
 unfold bn
 split
 ·simp
 split
 ·simp
 rename_i h _
 have hv:bP f=0:=by simpa using h
 unfold bP at hv
 split at hv
 ·cases hv
 rename_i hl
 have:=F4 fmt f (AZ f [] hv)
 simp only;omega
theorem vW{E:List UInt8->El}:∀(fuel:Nat) (l:List UInt8) (a d:Nat) (f:List It) (cuts:List Nat) (op:List It) (c:Nat),(dv E fuel l a d f cuts op c).2.2.2≠0->(dv E fuel l a d f cuts op c).1=[]
 | 0,l,a,d,f,cuts,op,c,h=>by
  rw[dv]at h |-;unfold jK at h |-
  split
  ·rename_i ho;rw[if_pos ho]at h;exact absurd rfl h
  rfl
 | fuel+1,l,a,d,f,cuts,op,c,h=>by
  rw[dv]at h |-
  split
  ·rename_i h0
   rw[if_pos h0]at h;unfold jK at h |-
   split
   ·rename_i ho;rw[if_pos ho]at h;exact absurd rfl h
   rfl
  rename_i h0
  rw[if_neg h0]at h
  split
  ·rfl
  rename_i k t n hq
  rw[hq]at h;simp only at h
  split
  ·rename_i hk
   rw[if_pos hk]at h;exact vW fuel _ _ _ _ _ _ _ h
  rename_i hk
  rw[if_neg hk]at h
  split
  ·rfl
  rename_i i cJ c' hs
  rw[hs]at h;simp only at h
  split
  ·rfl
  rename_i hf
  rw[if_neg hf]at h;exact vW fuel _ _ _ _ _ _ _ h
end St
theorem C1{fmt:Int}(hk:fmt=1\/fmt=2\/fmt=3)(ps:List St.Pt)(k:Int):(CD fmt ps k).1.length<=512/\aY (CD fmt ps k).1<=(St.b8 ps).length:=by
 unfold CD;rw[if_pos hk]
 by_cases hc:(St.bQ (jN fmt) ps k).2.2.2=0
 ·obtain⟨j,hj,rfl,_,hU,_⟩:=St.zh hc;rw[hU]at hc |-;have hok:=Da hk _ hc;have:=uB ps j hj
  exact⟨hok.len,Nat.le_trans hok.aY this⟩
 have:(St.bQ (jN fmt) ps k).1=[]:=by
  unfold St.bQ at hc |-
  split
  ·rename_i hu
   rw[if_pos hu,xH hk]at hc;rw[xH hk];exact St.vW _ _ _ _ _ _ _ _ hc
  rfl
 rw[this];simp[aY]
theorem l8(fmt:Int)(hk:fmt=1\/fmt=2\/fmt=3)(A B C:Option Addr)(n c m d m2 e0:Nat)(ps:List St.Pt)(k:Int)(rs:List (Int × Int))(ts:List (List St.It))(w:YA)(hL:Mk.jU w)(hn:ps.length=n)(hnc:n<=c)(dq:c<=9223372036854775807)(hm:rs.length=m)(hm2:ts.length=m2)(h:a8 w A ps)(hB:eC w B rs)(hC:gk w C ts)(hl:n<=1000000)(hr:(St.b8 ps).length<=1000000)(fC:m<=20)
  (hts:∀t∈ts,t.length<=1100/\aY t<=20000000):Calls Tryz.prog 16 #[.agg #[Yp Yv fmt,Yr A n c],Yp Yv k,Yr B m d,Yr C m2 e0] w (fV (St.eQ (jN fmt) (oQ fmt) (St.bn fmt) fmt ps k rs ts) w):=
 tT A B C n c m d m2 e0 ps k rs ts w (U2 fmt w hk hL) hn hnc dq hm hm2 h hB hC hl hr fC hts (λt _=>by have:=St.J3 fmt t;omega)
end
