/- The contracts of resource.Encode and sheet.Encode: what they give is St.encS. -/
import Derived.Test.YthoemdibbldndaaGreatDoorGO
set_option linter.all false
set_option maxHeartbeats 0
set_option maxRecDepth 20000
open Go.Value renaming int->UM,string->UN
open Go.Obj renaming cells->UT
open Go renaming World->UY
namespace Go.Proofs.YthoemdibbldndaaGreatDoor
open Go.RowKit
def jA:List (UInt8 × ByteArray):=[(10,⟨#[92,110]⟩),(9,⟨#[92,116]⟩),(13,⟨#[92,114]⟩),(92,⟨#[92,92]⟩),(123,⟨#[92,123]⟩)]
theorem OY:r9 jA:=⟨by decide,by decide,by intro p hp;simp[jA]at hp;rcases hp with rfl|rfl|rfl|rfl|rfl<;>decide,by decide⟩
theorem MY(c:UInt8):eS jA.reverse c=St.bh 2 c:=by
 by_cases h0:c=10
 ·subst h0;rfl
 by_cases h1:c=9
 ·subst h1;rfl
 by_cases h2:c=13
 ·subst h2;rfl
 by_cases h3:c=92
 ·subst h3;rfl
 by_cases h4:c=123
 ·subst h4;rfl
 have e0:c.toNat≠10:=λe=>h0 (UInt8.toNat_inj.1 e)
 have e1:c.toNat≠9:=λe=>h1 (UInt8.toNat_inj.1 e)
 have e2:c.toNat≠13:=λe=>h2 (UInt8.toNat_inj.1 e)
 have e3:c.toNat≠92:=λe=>h3 (UInt8.toNat_inj.1 e)
 have e4:c.toNat≠123:=λe=>h4 (UInt8.toNat_inj.1 e)
 have:cr jA.reverse c=none:=by
  show cr [(123,⟨#[92,123]⟩),(92,⟨#[92,92]⟩),(13,⟨#[92,114]⟩),(9,⟨#[92,116]⟩),(10,⟨#[92,110]⟩)] c=none
  simp[cr,Ne.symm h0,Ne.symm h1,Ne.symm h2,Ne.symm h3,Ne.symm h4]
 rw[ln this];simp[St.bh,e0,e1,e2,e3,e4]
theorem JJ(t:List UInt8):t.flatMap (eS jA.reverse)=t.flatMap (St.bh 2):=by
 congr 1;funext c;exact MY c
def F9(w0:UY)(B rb:Nat)(f:List St.It)(n:Nat)(s6 jY:Value)(wr:UY):Prop:=
 ∃(k:Nat) (u:ByteArray),k<=n/\jY=UM .i64 k/\s6=UN u/\u.1.1=(f.take k).flatMap (St.aH 2)/\u.size<=5*bc (f.take k)+5*k/\(f.take k).any (St.bp 2)=false/\gx wr B rb jA/\Below B w0 wr
theorem CY(A:Option Addr)(n c:Nat)(f:List St.It)(w:UY)(hn:f.length=n)(hnc:n<=c)(dz:c<=9223372036854775807)(h:aO w A f)(hl:n<=1000000000)(ht:bc f<=1000000000000) :
  Calls Tryz.prog 40 #[.slice A n c] w λe w'=>e=.returned (.tuple #[UN ⟨(St.bj 2 f).1.toArray⟩,UM .i64 (St.bj 2 f).2])/\ac w w':=by
 have H:=aa h;have HN:=aa hn;have HT:=aa ht;have hv:=aa (qX A n c f w hn hnc dz h (by omega) (by omega));clear h hn
 by_cases dU:St.bJ f=0
 rotate_left 1
 ·have hr:=aa (show St.bj 2 f=([],St.bJ f)by unfold St.bj;rw[if_pos dU]);have z:(St.bJ f==0)=false:=by simpa using dU
  have z2:(St.bJ f != 0)=true:=by simpa using dU
  generalize St.bJ f=ev at *;clear dU;go_enter Tryz.func40,Tryz.ntmps40;go_wp2_with fail;refine hv.out.mono ?_;rintro e w' ⟨rfl,hu⟩;have HU:=aa hu;clear hu;go_wp2;go_ret2;exact⟨by rw[hr.out];rfl,HU.out⟩
 have hok:=λ(h:f.any (St.bp 2)=false)=>show St.bj 2 f=(f.flatMap (St.aH 2),0)by unfold St.bj;rw[if_neg (by simp[dU]),h];rfl
 have hbad:=λ(h:f.any (St.bp 2)=true)=>show St.bj 2 f=([],7)by unfold St.bj;rw[if_neg (by simp[dU]),h];rfl
 have hlen:St.ay f<=1024:=by
  refine Nat.not_lt.1 λe=>?_
  unfold St.bJ at dU;rw[if_pos (.inr e)]at dU;cases dU
 have du:=rB dU;have Gf:=aa du;clear du;rw[dU]at hv;have u6:=aa hok;have iq:=aa hbad;have HLEN:=aa hlen;clear hok hbad dU ht hlen;go_enter Tryz.func40,Tryz.ntmps40;go_wp2_with fail;refine hv.out.mono ?_;rintro e w1 ⟨rfl,hu⟩;have fU:=aa hu;have Ba:=hu.size;clear hu hv;have yr:=λ(W:UY) (ab:Nat) (hc:∀j u,((dA jA).map UN)[j]?=some u->W.cell? ⟨ab,j,none⟩=some u)=>q7 ab 10 (dA jA) W rfl (by decide) (by omega) hc
 have xF:=aa yr;clear yr;go_wp2_with fail;refine(xF.out _ w1.1.size ?_).mono ?_
 ·intro j u hj
  match j,hj with
  | 0,hj=>simp[dA,jA]at hj;subst hj;simp
  | 1,hj=>simp[dA,jA]at hj;subst hj;simp
  | 2,hj=>simp[dA,jA]at hj;subst hj;simp
  | 3,hj=>simp[dA,jA]at hj;subst hj;simp
  | 4,hj=>simp[dA,jA]at hj;subst hj;simp
  | 5,hj=>simp[dA,jA]at hj;subst hj;simp
  | 6,hj=>simp[dA,jA]at hj;subst hj;simp
  | 7,hj=>simp[dA,jA]at hj;subst hj;simp
  | 8,hj=>simp[dA,jA]at hj;subst hj;simp
  | 9,hj=>simp[dA,jA]at hj;subst hj;simp
  | j+10,hj=>simp[dA,jA]at hj
 rintro e w2 ⟨rb,rfl,jL,hu2⟩;have lF:Below (w1.alloc (UT #[UN ⟨#[10]⟩,UN ⟨#[92,110]⟩,UN ⟨#[9]⟩,UN ⟨#[92,116]⟩,UN ⟨#[13]⟩,UN ⟨#[92,114]⟩,UN ⟨#[92]⟩,UN ⟨#[92,92]⟩,UN ⟨#[123]⟩,UN ⟨#[92,123]⟩] 9)).1.size (w1.alloc (UT #[UN ⟨#[10]⟩,UN ⟨#[92,110]⟩,UN ⟨#[9]⟩,UN ⟨#[92,116]⟩,UN ⟨#[13]⟩,UN ⟨#[92,114]⟩,UN ⟨#[92]⟩,UN ⟨#[92,92]⟩,UN ⟨#[123]⟩,UN ⟨#[92,123]⟩] 9)) w2:=hu2.below;have oy:ac w (w1.alloc (UT #[UN ⟨#[10]⟩,UN ⟨#[92,110]⟩,UN ⟨#[9]⟩,UN ⟨#[92,116]⟩,UN ⟨#[13]⟩,UN ⟨#[92,114]⟩,UN ⟨#[92]⟩,UN ⟨#[92,92]⟩,UN ⟨#[123]⟩,UN ⟨#[92,123]⟩] 9)):=fU.out.alloc _;generalize(w1.alloc (UT #[UN ⟨#[10]⟩,UN ⟨#[92,110]⟩,UN ⟨#[9]⟩,UN ⟨#[92,116]⟩,UN ⟨#[13]⟩,UN ⟨#[92,114]⟩,UN ⟨#[92]⟩,UN ⟨#[92,92]⟩,UN ⟨#[123]⟩,UN ⟨#[92,123]⟩] 9))=w1' at jL hu2 lF oy;have yf:w1'.1.size<=w2.1.size:=hu2.size;have Ai:=aa oy;have pe:gx w2 w1'.1.size rb jA:=.inl jL;have jD:=aa pe;have nW:=aa lF;clear jL hu2 lF oy pe fU Ba xF;generalize hB:w1'.1.size=B at jD nW yf;go_wp2_with fail;go_loopw [6,18] (λs6 jY wr=>F9 w1' B rb f n s6 jY wr/\B<=wr.1.size) (λ_ jY _=>n+1-(intOf jY).toNat)
 case atStart=>exact⟨⟨0,⟨#[]⟩,by omega,rfl,rfl,rfl,by show 0<=_;omega,rfl,jD.out,nW.out⟩,yf⟩
 case round=>
  obtain⟨⟨k,u,hk,rfl,rfl,mT,km,gl,hrp,hbl⟩,hBr⟩:=hrel;have oR:=aa hrp;have cZ:=aa hbl;have yx:ac w1' wr:=ac.cn (by rw[hB];exact hbl);have HU:=aa (Ai.out.trans yx);have nZ:=aa mT;have lY:=aa gl;clear mT gl hrp hbl yx jD nW;have hN:=HN.out;have hT:=HT.out;have hb2:=fS f k
  by_cases hlt:k<n
  ·have aS:k<f.length:=by omega
   obtain⟨b,off,rfl,hb,hc⟩:=(H.out.ai HU.out) (by omega);obtain⟨c0,c1,c2⟩:=hc k aS;have hfl:=tv 2 f k aS;have hb3:=fS f (k+1);have htk:=j1 f k aS;have hwd:=xb f k aS;have hL:=HLEN.out;have du:=Gf.out f[k] (List.getElem_mem aS);have kK:=qF (St.bp 2) f k aS lY.out;have eG:=oT (St.bp 2) f k aS;generalize f[k]=x at c0 c1 c2 hfl htk kK eG hwd du;obtain⟨kd,tx,id⟩:=x;simp only at c0 c1 c2 htk hwd du;haveI:af b wr:=af.of hb;have qj:(⟨tx.toArray⟩:ByteArray).size=tx.length:=by show tx.toArray.size=_;simp
   have step:∀(v:ByteArray) (W:UY),v.1.1=u.1.1++St.aH 2 (kd,tx,id)->v.size<=u.size+5*tx.length+5->St.bp 2 (kd,tx,id)=false->gx W B rb jA->Below B wr W->F9 w1' B rb f n (UN v) (UM .i64 ((k:Int)+1)) W:=λv W h1 h2 h3 h4 h5=>
    ⟨k+1,v,by omega,congrArg (UM .i64) (by omega),rfl,by rw[h1,nZ.out,hfl],by rw[htk];omega,kK h3,h4,cZ.out.trans h5⟩
   have STEP:=aa step;have ig:=aa eG;have tL:=aa htk;have J8:u.size<=6000000000000:=by omega
   have J7:tx.length<=1000000000000:=by omega
   clear step eG hfl kK hc aS
   by_cases k1:kd=1
   ·subst k1;have htl:tx.length<=1024:=by have:=hwd rfl;omega
    have hre:=λ(W:UY) (hR:gx W B rb jA) (hB:B<=W.1.size)=>pR B rb jA ⟨tx.toArray⟩ W hR OY hB (by omega)
    have hf2:(⟨tx.toArray⟩:ByteArray).1.1.flatMap (eS jA.reverse)=tx.flatMap (St.bh 2):=JJ tx;rw[hf2]at hre;have AU:=AE 2 tx;have hnb:=aa (show St.bp 2 (1,tx,id)=false by unfold St.bp;rfl);have rP:St.aH 2 (1,tx,id)=tx.flatMap (St.bh 2):=by unfold St.aH;rfl
    have xB:=aa rP;generalize tx.flatMap (St.bh 2)=et at hre AU xB;have rQ:(⟨et.toArray⟩:ByteArray).size=et.length:=by show et.toArray.size=_;simp
    have y1:¬9223372036854775807<u.size+(⟨et.toArray⟩:ByteArray).size:=by rw[rQ];omega
    have y2:¬9223372036854775807<u.size+et.length:=by omega
    have Gj:=aa hre;have dL:(wr.alloc (UT #[UM .i64 1,UN ⟨tx.toArray⟩,UM .i64 id] 36)).1.size=wr.1.size+1:=by simp
    clear hre hf2 rP hwd;go_wp2_with fail;refine(Gj.out _ (oR.out.ai ((ac.refl _).alloc _)) (by rw[dL];omega)).mono ?_;rintro e w3 ⟨rfl,hr3,hb3'⟩;have lG:Below B wr w3:=(Below.ai (Below.refl _ _) hBr ((ac.refl wr).alloc _)).trans hb3';have hfin:=aa (STEP.out (u++(⟨et.toArray⟩:ByteArray)) w3 (by rw[xB.out];simp) (by rw[ByteArray.size_append,rQ];omega) hnb.out (.inr hr3) lG);have yg:=lG.size;clear hr3 hb3' lG c0 c1 c2;go_wp2;exact⟨⟨hfin.out,by omega⟩,by simp[intOf];omega⟩
   have q1:(kd==1)=false:=by simpa using k1
   by_cases k5:kd=5
   ·subst k5;have hnb:=aa (show St.bp 2 (5,tx,id)=false by unfold St.bp St.aJ;rfl);have y1:¬9223372036854775807<1+tx.length:=by omega
    have y2:¬9223372036854775807<1+tx.length+1:=by omega
    have y3:¬9223372036854775807<u.size+(1+tx.length+1):=by omega
    have hfin:=λW (hW:ac wr W)=>STEP.out (u++((⟨#[123]⟩:ByteArray)++(⟨tx.toArray⟩:ByteArray)++(⟨#[125]⟩:ByteArray))) W (by unfold St.aH;simp) (by simp only[ByteArray.size_append,qj];show _+(1+_+1)<=_;omega) hnb.out (oR.out.ai hW) (Below.ai (Below.refl _ _) hBr hW)
    have hsz:=λW (hW:ac wr W)=>Nat.le_trans hBr hW.size
    have dr:=aa (λW hW=>And.intro (hfin W hW) (hsz W hW));clear hfin hwd k1 hsz;go_wp2;exact⟨dr.out _ uZ,by simp[intOf];omega⟩
   have q5:(kd==5)=false:=by simpa using k5
   have cV:St.aJ kd=true:=by
    rcases du with h|h|h
    ·exact absurd h k1
    ·exact absurd h k5
    exact h
   have kv:=ig.out (show St.bp 2 (kd,tx,id)=true by unfold St.bp;simp[cV]);have hr:=aa (iq.out kv);clear kv cV du k1 k5 hwd;go_wp2;go_ret2;exact⟨by rw[hr.out];rfl,HU.out.trans uZ⟩
  have hkn:k=n:=by omega
  subst hkn;have hft:f.take k=f:=List.take_of_length_le (by omega);rw[hft]at nZ lY;have hr:=aa (u6.out lY.out);have hu2:u=⟨(f.flatMap (St.aH 2)).toArray⟩:=by rw[<-nZ.out,be]
  have aZ:=aa hu2;clear hlt hft hu2 lY;go_wp2;go_ret2;exact⟨by rw[hr.out,aZ.out];rfl,HU.out⟩
def l6:List (UInt8 × ByteArray):=[(34,⟨#[34,34]⟩),(123,⟨#[123,123]⟩)]
theorem OZ:r9 l6:=⟨by decide,by decide,by intro p hp;simp[l6]at hp;rcases hp with rfl|rfl<;>decide,by decide⟩
theorem Iz(c:UInt8):eS l6.reverse c=St.bh 3 c:=by
 by_cases h1:c=34
 ·subst h1;rfl
 by_cases h2:c=123
 ·subst h2;rfl
 have e1:c.toNat≠34:=λe=>h1 (UInt8.toNat_inj.1 e)
 have e2:c.toNat≠123:=λe=>h2 (UInt8.toNat_inj.1 e)
 have:cr l6.reverse c=none:=by
  show cr [(123,⟨#[123,123]⟩),(34,⟨#[34,34]⟩)] c=none
  simp[cr,Ne.symm h1,Ne.symm h2]
 rw[ln this];simp[St.bh,e1,e2]
theorem EN(t:List UInt8):t.flatMap (eS l6.reverse)=t.flatMap (St.bh 3):=by
 congr 1;funext c;exact Iz c
def Ga(w0:UY)(B rb:Nat)(f:List St.It)(n:Nat)(s6 jY:Value)(wr:UY):Prop:=
 ∃(k:Nat) (u:ByteArray),k<=n/\jY=UM .i64 k/\s6=UN u/\u.1.1=(f.take k).flatMap (St.aH 3)/\u.size<=5*bc (f.take k)+5*k/\(f.take k).any (St.bp 3)=false/\gx wr B rb l6/\Below B w0 wr
theorem CR(A:Option Addr)(n c:Nat)(f:List St.It)(w:UY)(hn:f.length=n)(hnc:n<=c)(dz:c<=9223372036854775807)(h:aO w A f)(hl:n<=1000000000)(ht:bc f<=1000000000000) :
  Calls Tryz.prog 90 #[.slice A n c] w λe w'=>e=.returned (.tuple #[UN ⟨(St.bj 3 f).1.toArray⟩,UM .i64 (St.bj 3 f).2])/\ac w w':=by
 have H:=aa h;have HN:=aa hn;have HT:=aa ht;have hv:=aa (qX A n c f w hn hnc dz h (by omega) (by omega));clear h hn
 by_cases dU:St.bJ f=0
 rotate_left 1
 ·have hr:=aa (show St.bj 3 f=([],St.bJ f)by unfold St.bj;rw[if_pos dU]);have z:(St.bJ f==0)=false:=by simpa using dU
  have z2:(St.bJ f != 0)=true:=by simpa using dU
  generalize St.bJ f=ev at *;clear dU;go_enter Tryz.func90,Tryz.ntmps90;go_wp2_with fail;refine hv.out.mono ?_;rintro e w' ⟨rfl,hu⟩;have HU:=aa hu;clear hu;go_wp2;go_ret2;exact⟨by rw[hr.out];rfl,HU.out⟩
 have hok:=λ(h:f.any (St.bp 3)=false)=>show St.bj 3 f=(f.flatMap (St.aH 3),0)by unfold St.bj;rw[if_neg (by simp[dU]),h];rfl
 have hbad:=λ(h:f.any (St.bp 3)=true)=>show St.bj 3 f=([],7)by unfold St.bj;rw[if_neg (by simp[dU]),h];rfl
 have hlen:St.ay f<=1024:=by
  refine Nat.not_lt.1 λe=>?_
  unfold St.bJ at dU;rw[if_pos (.inr e)]at dU;cases dU
 have du:=rB dU;have Gf:=aa du;clear du;rw[dU]at hv;have u6:=aa hok;have iq:=aa hbad;have HLEN:=aa hlen;clear hok hbad dU ht hlen;go_enter Tryz.func90,Tryz.ntmps90;go_wp2_with fail;refine hv.out.mono ?_;rintro e w1 ⟨rfl,hu⟩;have fU:=aa hu;have Ba:=hu.size;clear hu hv;have yr:=λ(W:UY) (ab:Nat) (hc:∀j u,((dA l6).map UN)[j]?=some u->W.cell? ⟨ab,j,none⟩=some u)=>q7 ab 4 (dA l6) W rfl (by decide) (by omega) hc
 have xF:=aa yr;clear yr;go_wp2_with fail;refine(xF.out _ w1.1.size ?_).mono ?_
 ·intro j u hj
  match j,hj with
  | 0,hj=>simp[dA,l6]at hj;subst hj;simp
  | 1,hj=>simp[dA,l6]at hj;subst hj;simp
  | 2,hj=>simp[dA,l6]at hj;subst hj;simp
  | 3,hj=>simp[dA,l6]at hj;subst hj;simp
  | j+4,hj=>simp[dA,l6]at hj
 rintro e w2 ⟨rb,rfl,jL,hu2⟩;have lF:Below (w1.alloc (UT #[UN ⟨#[34]⟩,UN ⟨#[34,34]⟩,UN ⟨#[123]⟩,UN ⟨#[123,123]⟩] 9)).1.size (w1.alloc (UT #[UN ⟨#[34]⟩,UN ⟨#[34,34]⟩,UN ⟨#[123]⟩,UN ⟨#[123,123]⟩] 9)) w2:=hu2.below;have oy:ac w (w1.alloc (UT #[UN ⟨#[34]⟩,UN ⟨#[34,34]⟩,UN ⟨#[123]⟩,UN ⟨#[123,123]⟩] 9)):=fU.out.alloc _;generalize(w1.alloc (UT #[UN ⟨#[34]⟩,UN ⟨#[34,34]⟩,UN ⟨#[123]⟩,UN ⟨#[123,123]⟩] 9))=w1' at jL hu2 lF oy;have yf:w1'.1.size<=w2.1.size:=hu2.size;have Ai:=aa oy;have pe:gx w2 w1'.1.size rb l6:=.inl jL;have jD:=aa pe;have nW:=aa lF;clear jL hu2 lF oy pe fU Ba xF;generalize hB:w1'.1.size=B at jD nW yf;go_wp2_with fail;go_loopw [6,18] (λs6 jY wr=>Ga w1' B rb f n s6 jY wr/\B<=wr.1.size) (λ_ jY _=>n+1-(intOf jY).toNat)
 case atStart=>exact⟨⟨0,⟨#[]⟩,by omega,rfl,rfl,rfl,by show 0<=_;omega,rfl,jD.out,nW.out⟩,yf⟩
 case round=>
  obtain⟨⟨k,u,hk,rfl,rfl,mT,km,gl,hrp,hbl⟩,hBr⟩:=hrel;have oR:=aa hrp;have cZ:=aa hbl;have yx:ac w1' wr:=ac.cn (by rw[hB];exact hbl);have HU:=aa (Ai.out.trans yx);have nZ:=aa mT;have lY:=aa gl;clear mT gl hrp hbl yx jD nW;have hN:=HN.out;have hT:=HT.out;have hb2:=fS f k
  by_cases hlt:k<n
  ·have aS:k<f.length:=by omega
   obtain⟨b,off,rfl,hb,hc⟩:=(H.out.ai HU.out) (by omega);obtain⟨c0,c1,c2⟩:=hc k aS;have hfl:=tv 3 f k aS;have hb3:=fS f (k+1);have htk:=j1 f k aS;have hwd:=xb f k aS;have hL:=HLEN.out;have du:=Gf.out f[k] (List.getElem_mem aS);have kK:=qF (St.bp 3) f k aS lY.out;have eG:=oT (St.bp 3) f k aS;generalize f[k]=x at c0 c1 c2 hfl htk kK eG hwd du;obtain⟨kd,tx,id⟩:=x;simp only at c0 c1 c2 htk hwd du;haveI:af b wr:=af.of hb;have qj:(⟨tx.toArray⟩:ByteArray).size=tx.length:=by show tx.toArray.size=_;simp
   have step:∀(v:ByteArray) (W:UY),v.1.1=u.1.1++St.aH 3 (kd,tx,id)->v.size<=u.size+5*tx.length+5->St.bp 3 (kd,tx,id)=false->gx W B rb l6->Below B wr W->Ga w1' B rb f n (UN v) (UM .i64 ((k:Int)+1)) W:=λv W h1 h2 h3 h4 h5=>
    ⟨k+1,v,by omega,congrArg (UM .i64) (by omega),rfl,by rw[h1,nZ.out,hfl],by rw[htk];omega,kK h3,h4,cZ.out.trans h5⟩
   have STEP:=aa step;have ig:=aa eG;have tL:=aa htk;have J8:u.size<=6000000000000:=by omega
   have J7:tx.length<=1000000000000:=by omega
   clear step eG hfl kK hc aS
   by_cases k1:kd=1
   ·subst k1;have htl:tx.length<=1024:=by have:=hwd rfl;omega
    have hre:=λ(W:UY) (hR:gx W B rb l6) (hB:B<=W.1.size)=>pR B rb l6 ⟨tx.toArray⟩ W hR OZ hB (by omega)
    have hf2:(⟨tx.toArray⟩:ByteArray).1.1.flatMap (eS l6.reverse)=tx.flatMap (St.bh 3):=EN tx;rw[hf2]at hre;have AU:=AE 3 tx;have hnb:=aa (show St.bp 3 (1,tx,id)=false by unfold St.bp;rfl);have rP:St.aH 3 (1,tx,id)=tx.flatMap (St.bh 3):=by unfold St.aH;rfl
    have xB:=aa rP;generalize tx.flatMap (St.bh 3)=et at hre AU xB;have rQ:(⟨et.toArray⟩:ByteArray).size=et.length:=by show et.toArray.size=_;simp
    have y1:¬9223372036854775807<u.size+(⟨et.toArray⟩:ByteArray).size:=by rw[rQ];omega
    have y2:¬9223372036854775807<u.size+et.length:=by omega
    have Gj:=aa hre;have dL:(wr.alloc (UT #[UM .i64 1,UN ⟨tx.toArray⟩,UM .i64 id] 36)).1.size=wr.1.size+1:=by simp
    clear hre hf2 rP hwd;go_wp2_with fail;refine(Gj.out _ (oR.out.ai ((ac.refl _).alloc _)) (by rw[dL];omega)).mono ?_;rintro e w3 ⟨rfl,hr3,hb3'⟩;have lG:Below B wr w3:=(Below.ai (Below.refl _ _) hBr ((ac.refl wr).alloc _)).trans hb3';have hfin:=aa (STEP.out (u++(⟨et.toArray⟩:ByteArray)) w3 (by rw[xB.out];simp) (by rw[ByteArray.size_append,rQ];omega) hnb.out (.inr hr3) lG);have yg:=lG.size;clear hr3 hb3' lG c0 c1 c2;go_wp2;exact⟨⟨hfin.out,by omega⟩,by simp[intOf];omega⟩
   have q1:(kd==1)=false:=by simpa using k1
   by_cases k5:kd=5
   ·subst k5;have hnb:=aa (show St.bp 3 (5,tx,id)=false by unfold St.bp St.aJ;rfl);have y1:¬9223372036854775807<1+tx.length:=by omega
    have y2:¬9223372036854775807<1+tx.length+1:=by omega
    have y3:¬9223372036854775807<u.size+(1+tx.length+1):=by omega
    have hfin:=λW (hW:ac wr W)=>STEP.out (u++((⟨#[123]⟩:ByteArray)++(⟨tx.toArray⟩:ByteArray)++(⟨#[125]⟩:ByteArray))) W (by unfold St.aH;simp) (by simp only[ByteArray.size_append,qj];show _+(1+_+1)<=_;omega) hnb.out (oR.out.ai hW) (Below.ai (Below.refl _ _) hBr hW)
    have hsz:=λW (hW:ac wr W)=>Nat.le_trans hBr hW.size
    have dr:=aa (λW hW=>And.intro (hfin W hW) (hsz W hW));clear hfin hwd k1 hsz;go_wp2;exact⟨dr.out _ uZ,by simp[intOf];omega⟩
   have q5:(kd==5)=false:=by simpa using k5
   have cV:St.aJ kd=true:=by
    rcases du with h|h|h
    ·exact absurd h k1
    ·exact absurd h k5
    exact h
   have kv:=ig.out (show St.bp 3 (kd,tx,id)=true by unfold St.bp;simp[cV]);have hr:=aa (iq.out kv);clear kv cV du k1 k5 hwd;go_wp2;go_ret2;exact⟨by rw[hr.out];rfl,HU.out.trans uZ⟩
  have hkn:k=n:=by omega
  subst hkn;have hft:f.take k=f:=List.take_of_length_le (by omega);rw[hft]at nZ lY;have hr:=aa (u6.out lY.out);have hu2:u=⟨(f.flatMap (St.aH 3)).toArray⟩:=by rw[<-nZ.out,be]
  have aZ:=aa hu2;clear hlt hft hu2 lY;go_wp2;go_ret2;exact⟨by rw[hr.out,aZ.out];rfl,HU.out⟩
