/- The contracts of resource.Encode and sheet.Encode: what they give is St.encS. -/
import Derived.Test.YthoemdibbldndaaGreatDoorGO
set_option linter.all false
set_option maxHeartbeats 0
set_option maxRecDepth 20000
open Go.Value renaming int->VD,string->VE
open Go.Obj renaming cells->VK
open Go renaming World->VO
namespace Go.Proofs.YthoemdibbldndaaGreatDoor
open Go.RowKit
def jt:List (UInt8 × ByteArray):=[(10,⟨#[92,110]⟩),(9,⟨#[92,116]⟩),(13,⟨#[92,114]⟩),(92,⟨#[92,92]⟩),(123,⟨#[92,123]⟩)]
theorem OU:rS jt:=⟨by decide,by decide,by intro p hp;simp[jt]at hp;rcases hp with rfl|rfl|rfl|rfl|rfl<;>decide,by decide⟩
theorem L1(c:UInt8):eY jt.reverse c=St.bZ 2 c:=by
 by_cases h0:c=10
 ·subst h0;rfl
 by_cases h1:c=9
 ·subst h1;rfl
 by_cases h2:c=13
 ·subst h2;rfl
 by_cases h3:c=92
 ·subst h3;rfl
 by_cases h4:c=123
 ·subst h4;rfl
 have e0:c.toNat≠10:=λe=>h0 (UInt8.toNat_inj.1 e)
 have e1:c.toNat≠9:=λe=>h1 (UInt8.toNat_inj.1 e)
 have e2:c.toNat≠13:=λe=>h2 (UInt8.toNat_inj.1 e)
 have e3:c.toNat≠92:=λe=>h3 (UInt8.toNat_inj.1 e)
 have e4:c.toNat≠123:=λe=>h4 (UInt8.toNat_inj.1 e)
 have:cx jt.reverse c=none:=by
  show cx [(123,⟨#[92,123]⟩),(92,⟨#[92,92]⟩),(13,⟨#[92,114]⟩),(9,⟨#[92,116]⟩),(10,⟨#[92,110]⟩)] c=none
  simp[cx,Ne.symm h0,Ne.symm h1,Ne.symm h2,Ne.symm h3,Ne.symm h4]
 rw[kT this];simp[St.bZ,e0,e1,e2,e3,e4]
theorem IW(t:List UInt8):t.flatMap (eY jt.reverse)=t.flatMap (St.bZ 2):=by
 congr 1;funext c;exact L1 c
def Fw(w0:VO)(B rb:Nat)(f:List St.It)(n:Nat)(s6 gE:Value)(wr:VO):Prop:=
 ∃(k:Nat) (u:ByteArray),k<=n/\gE=VD .i64 k/\s6=VE u/\u.1.1=(f.take k).flatMap (St.cF 2)/\u.size<=5*aP (f.take k)+5*k/\(f.take k).any (St.bA 2)=false/\gF wr B rb jt/\Below B w0 wr
theorem CF(A:Option Addr)(n c:Nat)(f:List St.It)(w:VO)(hn:f.length=n)(hnc:n<=c)(cN:c<=9223372036854775807)(h:aE w A f)(hl:n<=1000000000)(ht:aP f<=1000000000000) :
  Calls Tryz.prog 40 #[.slice A n c] w λe w'=>e=.returned (.tuple #[VE ⟨(St.bj 2 f).1.toArray⟩,VD .i64 (St.bj 2 f).2])/\ac w w':=by
 have H:=aa h;have HN:=aa hn;have HT:=aa ht;have hv:=aa (qH A n c f w hn hnc cN h (by omega) (by omega));clear h hn
 by_cases dX:St.bV f=0
 rotate_left 1
 ·have hr:=aa (show St.bj 2 f=([],St.bV f)by unfold St.bj;rw[if_pos dX]);have z:(St.bV f==0)=false:=by simpa using dX
  have z2:(St.bV f != 0)=true:=by simpa using dX
  generalize St.bV f=ev at *;clear dX;go_enter Tryz.func40,Tryz.ntmps40;go_wp2_with fail;refine hv.out.mono ?_;rintro e w' ⟨rfl,hu⟩;have HU:=aa hu;clear hu;go_wp2;go_ret2;exact⟨by rw[hr.out];rfl,HU.out⟩
 have hok:=λ(h:f.any (St.bA 2)=false)=>show St.bj 2 f=(f.flatMap (St.cF 2),0)by unfold St.bj;rw[if_neg (by simp[dX]),h];rfl
 have hbad:=λ(h:f.any (St.bA 2)=true)=>show St.bj 2 f=([],7)by unfold St.bj;rw[if_neg (by simp[dX]),h];rfl
 have hlen:St.aR f<=1024:=by
  refine Nat.not_lt.1 λe=>?_
  unfold St.bV at dX;rw[if_pos (.inr e)]at dX;cases dX
 have cI:=ri dX;have FJ:=aa cI;clear cI;rw[dX]at hv;have zI:=aa hok;have iy:=aa hbad;have HLEN:=aa hlen;clear hok hbad dX ht hlen;go_enter Tryz.func40,Tryz.ntmps40;go_wp2_with fail;refine hv.out.mono ?_;rintro e w1 ⟨rfl,hu⟩;have fR:=aa hu;have AY:=hu.size;clear hu hv;have yj:=λ(W:VO) (ab:Nat) (hc:∀j u,((dC jt).map VE)[j]?=some u->W.cell? ⟨ab,j,none⟩=some u)=>qM ab 10 (dC jt) W rfl (by decide) (by omega) hc
 have xy:=aa yj;clear yj;go_wp2_with fail;refine(xy.out _ w1.1.size ?_).mono ?_
 ·intro j u hj
  match j,hj with
  | 0,hj=>simp[dC,jt]at hj;subst hj;simp
  | 1,hj=>simp[dC,jt]at hj;subst hj;simp
  | 2,hj=>simp[dC,jt]at hj;subst hj;simp
  | 3,hj=>simp[dC,jt]at hj;subst hj;simp
  | 4,hj=>simp[dC,jt]at hj;subst hj;simp
  | 5,hj=>simp[dC,jt]at hj;subst hj;simp
  | 6,hj=>simp[dC,jt]at hj;subst hj;simp
  | 7,hj=>simp[dC,jt]at hj;subst hj;simp
  | 8,hj=>simp[dC,jt]at hj;subst hj;simp
  | 9,hj=>simp[dC,jt]at hj;subst hj;simp
  | j+10,hj=>simp[dC,jt]at hj
 rintro e w2 ⟨rb,rfl,hrep,hu2⟩;have li:Below (w1.alloc (VK #[VE ⟨#[10]⟩,VE ⟨#[92,110]⟩,VE ⟨#[9]⟩,VE ⟨#[92,116]⟩,VE ⟨#[13]⟩,VE ⟨#[92,114]⟩,VE ⟨#[92]⟩,VE ⟨#[92,92]⟩,VE ⟨#[123]⟩,VE ⟨#[92,123]⟩] 9)).1.size (w1.alloc (VK #[VE ⟨#[10]⟩,VE ⟨#[92,110]⟩,VE ⟨#[9]⟩,VE ⟨#[92,116]⟩,VE ⟨#[13]⟩,VE ⟨#[92,114]⟩,VE ⟨#[92]⟩,VE ⟨#[92,92]⟩,VE ⟨#[123]⟩,VE ⟨#[92,123]⟩] 9)) w2:=hu2.below;have ol:ac w (w1.alloc (VK #[VE ⟨#[10]⟩,VE ⟨#[92,110]⟩,VE ⟨#[9]⟩,VE ⟨#[92,116]⟩,VE ⟨#[13]⟩,VE ⟨#[92,114]⟩,VE ⟨#[92]⟩,VE ⟨#[92,92]⟩,VE ⟨#[123]⟩,VE ⟨#[92,123]⟩] 9)):=fR.out.alloc _;generalize(w1.alloc (VK #[VE ⟨#[10]⟩,VE ⟨#[92,110]⟩,VE ⟨#[9]⟩,VE ⟨#[92,116]⟩,VE ⟨#[13]⟩,VE ⟨#[92,114]⟩,VE ⟨#[92]⟩,VE ⟨#[92,92]⟩,VE ⟨#[123]⟩,VE ⟨#[92,123]⟩] 9))=w1' at hrep hu2 li ol;have xZ:w1'.1.size<=w2.1.size:=hu2.size;have zR:=aa ol;have oU:gF w2 w1'.1.size rb jt:=.inl hrep;have nK:=aa oU;have nE:=aa li;clear hrep hu2 li ol oU fR AY xy;generalize hB:w1'.1.size=B at nK nE xZ;go_wp2_with fail;go_loopw [6,18] (λs6 gE wr=>Fw w1' B rb f n s6 gE wr/\B<=wr.1.size) (λ_ gE _=>n+1-(intOf gE).toNat)
 case atStart=>exact⟨⟨0,⟨#[]⟩,by omega,rfl,rfl,rfl,by show 0<=_;omega,rfl,nK.out,nE.out⟩,xZ⟩
 case round=>
  obtain⟨⟨k,u,hk,rfl,rfl,mG,j7,ig,hrp,hbl⟩,hBr⟩:=hrel;have lL:=aa hrp;have cX:=aa hbl;have ym:ac w1' wr:=ac.cm (by rw[hB];exact hbl);have HU:=aa (zR.out.trans ym);have nL:=aa mG;have lH:=aa ig;clear mG ig hrp hbl ym nK nE;have hN:=HN.out;have hT:=HT.out;have hb2:=fG f k
  by_cases hlt:k<n
  ·have aG:k<f.length:=by omega
   obtain⟨b,off,rfl,hb,hc⟩:=(H.out.ah HU.out) (by omega);obtain⟨c0,c1,c2⟩:=hc k aG;have hfl:=th 2 f k aG;have hb3:=fG f (k+1);have htk:=iW f k aG;have hwd:=wZ f k aG;have hL:=HLEN.out;have cI:=FJ.out f[k] (List.getElem_mem aG);have kw:=ql (St.bA 2) f k aG lH.out;have eP:=oK (St.bA 2) f k aG;generalize f[k]=x at c0 c1 c2 hfl htk kw eP hwd cI;obtain⟨kd,tx,id⟩:=x;simp only at c0 c1 c2 htk hwd cI;haveI:af b wr:=af.of hb;have pV:(⟨tx.toArray⟩:ByteArray).size=tx.length:=by show tx.toArray.size=_;simp
   have step:∀(v:ByteArray) (W:VO),v.1.1=u.1.1++St.cF 2 (kd,tx,id)->v.size<=u.size+5*tx.length+5->St.bA 2 (kd,tx,id)=false->gF W B rb jt->Below B wr W->Fw w1' B rb f n (VE v) (VD .i64 ((k:Int)+1)) W:=λv W h1 h2 h3 h4 h5=>
    ⟨k+1,v,by omega,congrArg (VD .i64) (by omega),rfl,by rw[h1,nL.out,hfl],by rw[htk];omega,kw h3,h4,cX.out.trans h5⟩
   have STEP:=aa step;have ir:=aa eP;have oI:=aa htk;have Jn:u.size<=6000000000000:=by omega
   have Jm:tx.length<=1000000000000:=by omega
   clear step eP hfl kw hc aG
   by_cases k1:kd=1
   ·subst k1;have htl:tx.length<=1024:=by have:=hwd rfl;omega
    have hre:=λ(W:VO) (hR:gF W B rb jt) (hB:B<=W.1.size)=>px B rb jt ⟨tx.toArray⟩ W hR OU hB (by omega)
    have hf2:(⟨tx.toArray⟩:ByteArray).1.1.flatMap (eY jt.reverse)=tx.flatMap (St.bZ 2):=IW tx;rw[hf2]at hre;have AS:=Ap 2 tx;have hnb:=aa (show St.bA 2 (1,tx,id)=false by unfold St.bA;rfl);have ry:St.cF 2 (1,tx,id)=tx.flatMap (St.bZ 2):=by unfold St.cF;rfl
    have xq:=aa ry;generalize tx.flatMap (St.bZ 2)=et at hre AS xq;have pO:(⟨et.toArray⟩:ByteArray).size=et.length:=by show et.toArray.size=_;simp
    have y1:¬9223372036854775807<u.size+(⟨et.toArray⟩:ByteArray).size:=by rw[pO];omega
    have y2:¬9223372036854775807<u.size+et.length:=by omega
    have FO:=aa hre;have cV:(wr.alloc (VK #[VD .i64 1,VE ⟨tx.toArray⟩,VD .i64 id] 36)).1.size=wr.1.size+1:=by simp
    clear hre hf2 ry hwd;go_wp2_with fail;refine(FO.out _ (lL.out.ah ((ac.refl _).alloc _)) (by rw[cV];omega)).mono ?_;rintro e w3 ⟨rfl,hr3,hb3'⟩;have lj:Below B wr w3:=(Below.ah (Below.refl _ _) hBr ((ac.refl wr).alloc _)).trans hb3';have hfin:=aa (STEP.out (u++(⟨et.toArray⟩:ByteArray)) w3 (by rw[xq.out];simp) (by rw[ByteArray.size_append,pO];omega) hnb.out (.inr hr3) lj);have x7:=lj.size;clear hr3 hb3' lj c0 c1 c2;go_wp2;exact⟨⟨hfin.out,by omega⟩,by simp[intOf];omega⟩
   have q1:(kd==1)=false:=by simpa using k1
   by_cases k5:kd=5
   ·subst k5;have hnb:=aa (show St.bA 2 (5,tx,id)=false by unfold St.bA St.bI;rfl);have y1:¬9223372036854775807<1+tx.length:=by omega
    have y2:¬9223372036854775807<1+tx.length+1:=by omega
    have y3:¬9223372036854775807<u.size+(1+tx.length+1):=by omega
    have hfin:=λW (hW:ac wr W)=>STEP.out (u++((⟨#[123]⟩:ByteArray)++(⟨tx.toArray⟩:ByteArray)++(⟨#[125]⟩:ByteArray))) W (by unfold St.cF;simp) (by simp only[ByteArray.size_append,pV];show _+(1+_+1)<=_;omega) hnb.out (lL.out.ah hW) (Below.ah (Below.refl _ _) hBr hW)
    have hsz:=λW (hW:ac wr W)=>Nat.le_trans hBr hW.size
    have dq:=aa (λW hW=>And.intro (hfin W hW) (hsz W hW));clear hfin hwd k1 hsz;go_wp2;exact⟨dq.out _ uZ,by simp[intOf];omega⟩
   have q5:(kd==5)=false:=by simpa using k5
   have cw:St.bI kd=true:=by
    rcases cI with h|h|h
    ·exact absurd h k1
    ·exact absurd h k5
    exact h
   have kh:=ir.out (show St.bA 2 (kd,tx,id)=true by unfold St.bA;simp[cw]);have hr:=aa (iy.out kh);clear kh cw cI k1 k5 hwd;go_wp2;go_ret2;exact⟨by rw[hr.out];rfl,HU.out.trans uZ⟩
  have hkn:k=n:=by omega
  subst hkn;have hft:f.take k=f:=List.take_of_length_le (by omega);rw[hft]at nL lH;have hr:=aa (zI.out lH.out);have hu2:u=⟨(f.flatMap (St.cF 2)).toArray⟩:=by rw[<-nL.out,aX]
  have aW:=aa hu2;clear hlt hft hu2 lH;go_wp2;go_ret2;exact⟨by rw[hr.out,aW.out];rfl,HU.out⟩
def lQ:List (UInt8 × ByteArray):=[(34,⟨#[34,34]⟩),(123,⟨#[123,123]⟩)]
theorem OV:rS lQ:=⟨by decide,by decide,by intro p hp;simp[lQ]at hp;rcases hp with rfl|rfl<;>decide,by decide⟩
theorem Hq(c:UInt8):eY lQ.reverse c=St.bZ 3 c:=by
 by_cases h1:c=34
 ·subst h1;rfl
 by_cases h2:c=123
 ·subst h2;rfl
 have e1:c.toNat≠34:=λe=>h1 (UInt8.toNat_inj.1 e)
 have e2:c.toNat≠123:=λe=>h2 (UInt8.toNat_inj.1 e)
 have:cx lQ.reverse c=none:=by
  show cx [(123,⟨#[123,123]⟩),(34,⟨#[34,34]⟩)] c=none
  simp[cx,Ne.symm h1,Ne.symm h2]
 rw[kT this];simp[St.bZ,e1,e2]
theorem Eb(t:List UInt8):t.flatMap (eY lQ.reverse)=t.flatMap (St.bZ 3):=by
 congr 1;funext c;exact Hq c
def Fx(w0:VO)(B rb:Nat)(f:List St.It)(n:Nat)(s6 gE:Value)(wr:VO):Prop:=
 ∃(k:Nat) (u:ByteArray),k<=n/\gE=VD .i64 k/\s6=VE u/\u.1.1=(f.take k).flatMap (St.cF 3)/\u.size<=5*aP (f.take k)+5*k/\(f.take k).any (St.bA 3)=false/\gF wr B rb lQ/\Below B w0 wr
theorem CB(A:Option Addr)(n c:Nat)(f:List St.It)(w:VO)(hn:f.length=n)(hnc:n<=c)(cN:c<=9223372036854775807)(h:aE w A f)(hl:n<=1000000000)(ht:aP f<=1000000000000) :
  Calls Tryz.prog 90 #[.slice A n c] w λe w'=>e=.returned (.tuple #[VE ⟨(St.bj 3 f).1.toArray⟩,VD .i64 (St.bj 3 f).2])/\ac w w':=by
 have H:=aa h;have HN:=aa hn;have HT:=aa ht;have hv:=aa (qH A n c f w hn hnc cN h (by omega) (by omega));clear h hn
 by_cases dX:St.bV f=0
 rotate_left 1
 ·have hr:=aa (show St.bj 3 f=([],St.bV f)by unfold St.bj;rw[if_pos dX]);have z:(St.bV f==0)=false:=by simpa using dX
  have z2:(St.bV f != 0)=true:=by simpa using dX
  generalize St.bV f=ev at *;clear dX;go_enter Tryz.func90,Tryz.ntmps90;go_wp2_with fail;refine hv.out.mono ?_;rintro e w' ⟨rfl,hu⟩;have HU:=aa hu;clear hu;go_wp2;go_ret2;exact⟨by rw[hr.out];rfl,HU.out⟩
 have hok:=λ(h:f.any (St.bA 3)=false)=>show St.bj 3 f=(f.flatMap (St.cF 3),0)by unfold St.bj;rw[if_neg (by simp[dX]),h];rfl
 have hbad:=λ(h:f.any (St.bA 3)=true)=>show St.bj 3 f=([],7)by unfold St.bj;rw[if_neg (by simp[dX]),h];rfl
 have hlen:St.aR f<=1024:=by
  refine Nat.not_lt.1 λe=>?_
  unfold St.bV at dX;rw[if_pos (.inr e)]at dX;cases dX
 have cI:=ri dX;have FJ:=aa cI;clear cI;rw[dX]at hv;have zI:=aa hok;have iy:=aa hbad;have HLEN:=aa hlen;clear hok hbad dX ht hlen;go_enter Tryz.func90,Tryz.ntmps90;go_wp2_with fail;refine hv.out.mono ?_;rintro e w1 ⟨rfl,hu⟩;have fR:=aa hu;have AY:=hu.size;clear hu hv;have yj:=λ(W:VO) (ab:Nat) (hc:∀j u,((dC lQ).map VE)[j]?=some u->W.cell? ⟨ab,j,none⟩=some u)=>qM ab 4 (dC lQ) W rfl (by decide) (by omega) hc
 have xy:=aa yj;clear yj;go_wp2_with fail;refine(xy.out _ w1.1.size ?_).mono ?_
 ·intro j u hj
  match j,hj with
  | 0,hj=>simp[dC,lQ]at hj;subst hj;simp
  | 1,hj=>simp[dC,lQ]at hj;subst hj;simp
  | 2,hj=>simp[dC,lQ]at hj;subst hj;simp
  | 3,hj=>simp[dC,lQ]at hj;subst hj;simp
  | j+4,hj=>simp[dC,lQ]at hj
 rintro e w2 ⟨rb,rfl,hrep,hu2⟩;have li:Below (w1.alloc (VK #[VE ⟨#[34]⟩,VE ⟨#[34,34]⟩,VE ⟨#[123]⟩,VE ⟨#[123,123]⟩] 9)).1.size (w1.alloc (VK #[VE ⟨#[34]⟩,VE ⟨#[34,34]⟩,VE ⟨#[123]⟩,VE ⟨#[123,123]⟩] 9)) w2:=hu2.below;have ol:ac w (w1.alloc (VK #[VE ⟨#[34]⟩,VE ⟨#[34,34]⟩,VE ⟨#[123]⟩,VE ⟨#[123,123]⟩] 9)):=fR.out.alloc _;generalize(w1.alloc (VK #[VE ⟨#[34]⟩,VE ⟨#[34,34]⟩,VE ⟨#[123]⟩,VE ⟨#[123,123]⟩] 9))=w1' at hrep hu2 li ol;have xZ:w1'.1.size<=w2.1.size:=hu2.size;have zR:=aa ol;have oU:gF w2 w1'.1.size rb lQ:=.inl hrep;have nK:=aa oU;have nE:=aa li;clear hrep hu2 li ol oU fR AY xy;generalize hB:w1'.1.size=B at nK nE xZ;go_wp2_with fail;go_loopw [6,18] (λs6 gE wr=>Fx w1' B rb f n s6 gE wr/\B<=wr.1.size) (λ_ gE _=>n+1-(intOf gE).toNat)
 case atStart=>exact⟨⟨0,⟨#[]⟩,by omega,rfl,rfl,rfl,by show 0<=_;omega,rfl,nK.out,nE.out⟩,xZ⟩
 case round=>
  obtain⟨⟨k,u,hk,rfl,rfl,mG,j7,ig,hrp,hbl⟩,hBr⟩:=hrel;have lL:=aa hrp;have cX:=aa hbl;have ym:ac w1' wr:=ac.cm (by rw[hB];exact hbl);have HU:=aa (zR.out.trans ym);have nL:=aa mG;have lH:=aa ig;clear mG ig hrp hbl ym nK nE;have hN:=HN.out;have hT:=HT.out;have hb2:=fG f k
  by_cases hlt:k<n
  ·have aG:k<f.length:=by omega
   obtain⟨b,off,rfl,hb,hc⟩:=(H.out.ah HU.out) (by omega);obtain⟨c0,c1,c2⟩:=hc k aG;have hfl:=th 3 f k aG;have hb3:=fG f (k+1);have htk:=iW f k aG;have hwd:=wZ f k aG;have hL:=HLEN.out;have cI:=FJ.out f[k] (List.getElem_mem aG);have kw:=ql (St.bA 3) f k aG lH.out;have eP:=oK (St.bA 3) f k aG;generalize f[k]=x at c0 c1 c2 hfl htk kw eP hwd cI;obtain⟨kd,tx,id⟩:=x;simp only at c0 c1 c2 htk hwd cI;haveI:af b wr:=af.of hb;have pV:(⟨tx.toArray⟩:ByteArray).size=tx.length:=by show tx.toArray.size=_;simp
   have step:∀(v:ByteArray) (W:VO),v.1.1=u.1.1++St.cF 3 (kd,tx,id)->v.size<=u.size+5*tx.length+5->St.bA 3 (kd,tx,id)=false->gF W B rb lQ->Below B wr W->Fx w1' B rb f n (VE v) (VD .i64 ((k:Int)+1)) W:=λv W h1 h2 h3 h4 h5=>
    ⟨k+1,v,by omega,congrArg (VD .i64) (by omega),rfl,by rw[h1,nL.out,hfl],by rw[htk];omega,kw h3,h4,cX.out.trans h5⟩
   have STEP:=aa step;have ir:=aa eP;have oI:=aa htk;have Jn:u.size<=6000000000000:=by omega
   have Jm:tx.length<=1000000000000:=by omega
   clear step eP hfl kw hc aG
   by_cases k1:kd=1
   ·subst k1;have htl:tx.length<=1024:=by have:=hwd rfl;omega
    have hre:=λ(W:VO) (hR:gF W B rb lQ) (hB:B<=W.1.size)=>px B rb lQ ⟨tx.toArray⟩ W hR OV hB (by omega)
    have hf2:(⟨tx.toArray⟩:ByteArray).1.1.flatMap (eY lQ.reverse)=tx.flatMap (St.bZ 3):=Eb tx;rw[hf2]at hre;have AS:=Ap 3 tx;have hnb:=aa (show St.bA 3 (1,tx,id)=false by unfold St.bA;rfl);have ry:St.cF 3 (1,tx,id)=tx.flatMap (St.bZ 3):=by unfold St.cF;rfl
    have xq:=aa ry;generalize tx.flatMap (St.bZ 3)=et at hre AS xq;have pO:(⟨et.toArray⟩:ByteArray).size=et.length:=by show et.toArray.size=_;simp
    have y1:¬9223372036854775807<u.size+(⟨et.toArray⟩:ByteArray).size:=by rw[pO];omega
    have y2:¬9223372036854775807<u.size+et.length:=by omega
    have FO:=aa hre;have cV:(wr.alloc (VK #[VD .i64 1,VE ⟨tx.toArray⟩,VD .i64 id] 36)).1.size=wr.1.size+1:=by simp
    clear hre hf2 ry hwd;go_wp2_with fail;refine(FO.out _ (lL.out.ah ((ac.refl _).alloc _)) (by rw[cV];omega)).mono ?_;rintro e w3 ⟨rfl,hr3,hb3'⟩;have lj:Below B wr w3:=(Below.ah (Below.refl _ _) hBr ((ac.refl wr).alloc _)).trans hb3';have hfin:=aa (STEP.out (u++(⟨et.toArray⟩:ByteArray)) w3 (by rw[xq.out];simp) (by rw[ByteArray.size_append,pO];omega) hnb.out (.inr hr3) lj);have x7:=lj.size;clear hr3 hb3' lj c0 c1 c2;go_wp2;exact⟨⟨hfin.out,by omega⟩,by simp[intOf];omega⟩
   have q1:(kd==1)=false:=by simpa using k1
   by_cases k5:kd=5
   ·subst k5;have hnb:=aa (show St.bA 3 (5,tx,id)=false by unfold St.bA St.bI;rfl);have y1:¬9223372036854775807<1+tx.length:=by omega
    have y2:¬9223372036854775807<1+tx.length+1:=by omega
    have y3:¬9223372036854775807<u.size+(1+tx.length+1):=by omega
    have hfin:=λW (hW:ac wr W)=>STEP.out (u++((⟨#[123]⟩:ByteArray)++(⟨tx.toArray⟩:ByteArray)++(⟨#[125]⟩:ByteArray))) W (by unfold St.cF;simp) (by simp only[ByteArray.size_append,pV];show _+(1+_+1)<=_;omega) hnb.out (lL.out.ah hW) (Below.ah (Below.refl _ _) hBr hW)
    have hsz:=λW (hW:ac wr W)=>Nat.le_trans hBr hW.size
    have dq:=aa (λW hW=>And.intro (hfin W hW) (hsz W hW));clear hfin hwd k1 hsz;go_wp2;exact⟨dq.out _ uZ,by simp[intOf];omega⟩
   have q5:(kd==5)=false:=by simpa using k5
   have cw:St.bI kd=true:=by
    rcases cI with h|h|h
    ·exact absurd h k1
    ·exact absurd h k5
    exact h
   have kh:=ir.out (show St.bA 3 (kd,tx,id)=true by unfold St.bA;simp[cw]);have hr:=aa (iy.out kh);clear kh cw cI k1 k5 hwd;go_wp2;go_ret2;exact⟨by rw[hr.out];rfl,HU.out.trans uZ⟩
  have hkn:k=n:=by omega
  subst hkn;have hft:f.take k=f:=List.take_of_length_le (by omega);rw[hft]at nL lH;have hr:=aa (zI.out lH.out);have hu2:u=⟨(f.flatMap (St.cF 3)).toArray⟩:=by rw[<-nL.out,aX]
  have aW:=aa hu2;clear hlt hft hu2 lH;go_wp2;go_ret2;exact⟨by rw[hr.out,aW.out];rfl,HU.out⟩
