/- The contracts of resource.Encode and sheet.Encode: what they give is St.encS. -/
import Derived.Test.YthoemdibbldndaaGreatDoorDcF
import Derived.Test.YthoemdibbldndaaGreatDoorRpp
set_option linter.all false
set_option maxHeartbeats 0
set_option maxRecDepth 20000
open Go.Value renaming int->Yh,string->Yi,slice->Yj,tuple->Ym
open Go.IntKind renaming i64->Yn
open Go.Obj renaming cells->Yo
open Go.Ending renaming returned->Yp
open Go renaming World->Ys
namespace Go.Proofs.YthoemdibbldndaaGreatDoor
open Go.RowKit
section
def jW:List (UInt8 × ByteArray):=[(10,⟨#[92,110]⟩),(9,⟨#[92,116]⟩),(13,⟨#[92,114]⟩),(92,⟨#[92,92]⟩),(123,⟨#[92,123]⟩)]
theorem RZ:th jW:=⟨by decide,by decide,by intro p hp;simp[jW]at hp;rcases hp with rfl|rfl|rfl|rfl|rfl<;>decide,by decide⟩
theorem Pl(c:UInt8):fg jW.reverse c=St.bj 2 c:=by
 by_cases h0:c=10
 ·subst h0;rfl
 by_cases h1:c=9
 ·subst h1;rfl
 by_cases h2:c=13
 ·subst h2;rfl
 by_cases h3:c=92
 ·subst h3;rfl
 by_cases h4:c=123
 ·subst h4;rfl
 have e0:c.toNat≠10:=λe=>h0 (UInt8.toNat_inj.1 e)
 have e1:c.toNat≠9:=λe=>h1 (UInt8.toNat_inj.1 e)
 have e2:c.toNat≠13:=λe=>h2 (UInt8.toNat_inj.1 e)
 have e3:c.toNat≠92:=λe=>h3 (UInt8.toNat_inj.1 e)
 have e4:c.toNat≠123:=λe=>h4 (UInt8.toNat_inj.1 e)
 have:cD jW.reverse c=none:=by
  show cD [(123,⟨#[92,123]⟩),(92,⟨#[92,92]⟩),(13,⟨#[92,114]⟩),(9,⟨#[92,116]⟩),(10,⟨#[92,110]⟩)] c=none
  simp[cD,Ne.symm h0,Ne.symm h1,Ne.symm h2,Ne.symm h3,Ne.symm h4]
 rw[lP this];simp[St.bj,e0,e1,e2,e3,e4]
theorem LF(t:List UInt8):t.flatMap (fg jW.reverse)=t.flatMap (St.bj 2):=by
 congr 1;funext c;exact Pl c
def IL(w0:Ys)(B rb:Nat)(f:List St.It)(n:Nat)(s6 kx:Value)(wr:Ys):Prop:=
 ∃(k:Nat) (u:ByteArray),k<=n/\kx=Yh Yn k/\s6=Yi u/\u.1.1=(f.take k).flatMap (St.aK 2)/\u.size<=5*aV (f.take k)+5*k/\(f.take k).any (St.bu 2)=false/\gO wr B rb jW/\Below B w0 wr
theorem EN(A:Option Addr)(n c:Nat)(f:List St.It)(w:Ys)(hn:f.length=n)(hnc:n<=c)(dG:c<=9223372036854775807)(h:aH w A f)(hl:n<=1000000000)(ht:aV f<=1000000000000) :
  Calls Tryz.prog 40 #[Yj A n c] w λe w'=>e=Yp (Ym #[Yi ⟨(St.bw 2 f).1.toArray⟩,Yh Yn (St.bw 2 f).2])/\ac w w':=by
 have H:=aa h;have HN:=aa hn;have HT:=aa ht;have hv:=aa (rX A n c f w hn hnc dG h (by omega) (by omega));clear h hn
 by_cases dT:St.bN f=0
 rotate_left 1
 ·have hr:=aa (show St.bw 2 f=([],St.bN f)by unfold St.bw;rw[if_pos dT]);have z:(St.bN f==0)=false:=by simpa using dT
  have z2:(St.bN f != 0)=true:=by simpa using dT
  generalize St.bN f=ev at *;clear dT;go_enter Tryz.func40,Tryz.ntmps40;go_wp2_with fail;refine hv.out.mono ?_;rintro e w' ⟨rfl,hu⟩;have HU:=aa hu;clear hu;go_wp2;go_ret2;exact⟨by rw[hr.out];rfl,HU.out⟩
 have hok:=λ(h:f.any (St.bu 2)=false)=>show St.bw 2 f=(f.flatMap (St.aK 2),0)by unfold St.bw;rw[if_neg (by simp[dT]),h];rfl
 have hbad:=λ(h:f.any (St.bu 2)=true)=>show St.bw 2 f=([],7)by unfold St.bw;rw[if_neg (by simp[dT]),h];rfl
 have hlen:St.aA f<=1024:=by
  refine Nat.not_lt.1 λe=>?_
  unfold St.bN at dT;rw[if_pos (.inr e)]at dT;cases dT
 have cN:=sv dT;have IU:=aa cN;clear cN;rw[dT]at hv;have wH:=aa hok;have iH:=aa hbad;have HLEN:=aa hlen;clear hok hbad dT ht hlen;go_enter Tryz.func40,Tryz.ntmps40;go_wp2_with fail;refine hv.out.mono ?_;rintro e w1 ⟨rfl,hu⟩;have fY:=aa hu;have CZ:=hu.size;clear hu hv;have As:=λ(W:Ys) (ab:Nat) (hc:∀j u,((dJ jW).map Yi)[j]?=some u->W.cell? ⟨ab,j,none⟩=some u)=>r6 ab 10 (dJ jW) W rfl (by decide) (by omega) hc
 have zA:=aa As;clear As;go_wp2_with fail;refine(zA.out _ w1.1.size ?_).mono ?_
 ·intro j u hj
  match j,hj with
  | 0,hj=>simp[dJ,jW]at hj;subst hj;simp
  | 1,hj=>simp[dJ,jW]at hj;subst hj;simp
  | 2,hj=>simp[dJ,jW]at hj;subst hj;simp
  | 3,hj=>simp[dJ,jW]at hj;subst hj;simp
  | 4,hj=>simp[dJ,jW]at hj;subst hj;simp
  | 5,hj=>simp[dJ,jW]at hj;subst hj;simp
  | 6,hj=>simp[dJ,jW]at hj;subst hj;simp
  | 7,hj=>simp[dJ,jW]at hj;subst hj;simp
  | 8,hj=>simp[dJ,jW]at hj;subst hj;simp
  | 9,hj=>simp[dJ,jW]at hj;subst hj;simp
  | j+10,hj=>simp[dJ,jW]at hj
 rintro e w2 ⟨rb,rfl,hrep,hu2⟩;have l9:Below (w1.alloc (Yo #[Yi ⟨#[10]⟩,Yi ⟨#[92,110]⟩,Yi ⟨#[9]⟩,Yi ⟨#[92,116]⟩,Yi ⟨#[13]⟩,Yi ⟨#[92,114]⟩,Yi ⟨#[92]⟩,Yi ⟨#[92,92]⟩,Yi ⟨#[123]⟩,Yi ⟨#[92,123]⟩] 9)).1.size (w1.alloc (Yo #[Yi ⟨#[10]⟩,Yi ⟨#[92,110]⟩,Yi ⟨#[9]⟩,Yi ⟨#[92,116]⟩,Yi ⟨#[13]⟩,Yi ⟨#[92,114]⟩,Yi ⟨#[92]⟩,Yi ⟨#[92,92]⟩,Yi ⟨#[123]⟩,Yi ⟨#[92,123]⟩] 9)) w2:=hu2.below;have pj:ac w (w1.alloc (Yo #[Yi ⟨#[10]⟩,Yi ⟨#[92,110]⟩,Yi ⟨#[9]⟩,Yi ⟨#[92,116]⟩,Yi ⟨#[13]⟩,Yi ⟨#[92,114]⟩,Yi ⟨#[92]⟩,Yi ⟨#[92,92]⟩,Yi ⟨#[123]⟩,Yi ⟨#[92,123]⟩] 9)):=fY.out.alloc _;generalize(w1.alloc (Yo #[Yi ⟨#[10]⟩,Yi ⟨#[92,110]⟩,Yi ⟨#[9]⟩,Yi ⟨#[92,116]⟩,Yi ⟨#[13]⟩,Yi ⟨#[92,114]⟩,Yi ⟨#[92]⟩,Yi ⟨#[92,92]⟩,Yi ⟨#[123]⟩,Yi ⟨#[92,123]⟩] 9))=w1' at hrep hu2 l9 pj;have Af:w1'.1.size<=w2.1.size:=hu2.size;have Cc:=aa pj;have pX:gO w2 w1'.1.size rb jW:=.inl hrep;have oH:=aa pX;have oD:=aa l9;clear hrep hu2 l9 pj pX fY CZ zA;generalize hB:w1'.1.size=B at oH oD Af;go_wp2_with fail;go_loopw [6,18] (λs6 kx wr=>IL w1' B rb f n s6 kx wr/\B<=wr.1.size) (λ_ kx _=>n+1-(intOf kx).toNat)
 case atStart=>exact⟨⟨0,⟨#[]⟩,by omega,rfl,rfl,rfl,by show 0<=_;omega,rfl,oH.out,oD.out⟩,Af⟩
 case round=>
  obtain⟨⟨k,u,hk,rfl,rfl,mN,kg,gD,mL,hbl⟩,hBr⟩:=hrel;have nE:=aa mL;have df:=aa hbl;have Aw:ac w1' wr:=ac.cn (by rw[hB];exact hbl);have HU:=aa (Cc.out.trans Aw);have oI:=aa mN;have mE:=aa gD;clear mN gD mL hbl Aw oH oD;have hN:=HN.out;have hT:=HT.out;have hb2:=fK f k
  by_cases hlt:k<n
  ·have aI:k<f.length:=by omega
   obtain⟨b,off,rfl,hb,hc⟩:=(H.out.ai HU.out) (by omega);obtain⟨c0,c1,c2⟩:=hc k aI;have hfl:=uE 2 f k aI;have hb3:=fK f (k+1);have htk:=jw f k aI;have hwd:=yR f k aI;have hL:=HLEN.out;have cN:=IU.out f[k] (List.getElem_mem aI);have lj:=rF (St.bu 2) f k aI mE.out;have eO:=pN (St.bu 2) f k aI;generalize f[k]=x at c0 c1 c2 hfl htk lj eO hwd cN;obtain⟨kd,tx,id⟩:=x;simp only at c0 c1 c2 htk hwd cN;haveI:af b wr:=af.of hb;have q7:(⟨tx.toArray⟩:ByteArray).size=tx.length:=by show tx.toArray.size=_;simp
   have step:∀(v:ByteArray) (W:Ys),v.1.1=u.1.1++St.aK 2 (kd,tx,id)->v.size<=u.size+5*tx.length+5->St.bu 2 (kd,tx,id)=false->gO W B rb jW->Below B wr W->IL w1' B rb f n (Yi v) (Yh Yn ((k:Int)+1)) W:=λv W h1 h2 h3 h4 h5=>
    ⟨k+1,v,by omega,congrArg (Yh Yn) (by omega),rfl,by rw[h1,oI.out,hfl],by rw[htk];omega,lj h3,h4,df.out.trans h5⟩
   have STEP:=aa step;have iw:=aa eO;have pJ:=aa htk;have L9:u.size<=6000000000000:=by omega
   have L8:tx.length<=1000000000000:=by omega
   clear step eO hfl lj hc aI
   by_cases k1:kd=1
   ·subst k1;have htl:tx.length<=1024:=by have:=hwd rfl;omega
    have hre:=λ(W:Ys) (hR:gO W B rb jW) (hB:B<=W.1.size)=>qG B rb jW ⟨tx.toArray⟩ W hR RZ hB (by omega)
    have hf2:(⟨tx.toArray⟩:ByteArray).1.1.flatMap (fg jW.reverse)=tx.flatMap (St.bj 2):=LF tx;rw[hf2]at hre;have CT:=Cz 2 tx;have hnb:=aa (show St.bu 2 (1,tx,id)=false by unfold St.bu;rfl);have sL:St.aK 2 (1,tx,id)=tx.flatMap (St.bj 2):=by unfold St.aK;rfl
    have zu:=aa sL;generalize tx.flatMap (St.bj 2)=et at hre CT zu;have sM:(⟨et.toArray⟩:ByteArray).size=et.length:=by show et.toArray.size=_;simp
    have y1:¬9223372036854775807<u.size+(⟨et.toArray⟩:ByteArray).size:=by rw[sM];omega
    have y2:¬9223372036854775807<u.size+et.length:=by omega
    have IX:=aa hre;have cZ:(wr.alloc (Yo #[Yh Yn 1,Yi ⟨tx.toArray⟩,Yh Yn id] 36)).1.size=wr.1.size+1:=by simp
    clear hre hf2 sL hwd;go_wp2_with fail;refine(IX.out _ (nE.out.ai ((ac.refl _).alloc _)) (by rw[cZ];omega)).mono ?_;rintro e w3 ⟨rfl,hr3,hb3'⟩;have ma:Below B wr w3:=(Below.ai (Below.refl _ _) hBr ((ac.refl wr).alloc _)).trans hb3';have hfin:=aa (STEP.out (u++(⟨et.toArray⟩:ByteArray)) w3 (by rw[zu.out];simp) (by rw[ByteArray.size_append,sM];omega) hnb.out (.inr hr3) ma);have Ah:=ma.size;clear hr3 hb3' ma c0 c1 c2;go_wp2;exact⟨⟨hfin.out,by omega⟩,by simp[intOf];omega⟩
   have q1:(kd==1)=false:=by simpa using k1
   by_cases k5:kd=5
   ·subst k5;have hnb:=aa (show St.bu 2 (5,tx,id)=false by unfold St.bu St.aQ;rfl);have y1:¬9223372036854775807<1+tx.length:=by omega
    have y2:¬9223372036854775807<1+tx.length+1:=by omega
    have y3:¬9223372036854775807<u.size+(1+tx.length+1):=by omega
    have hfin:=λW (hW:ac wr W)=>STEP.out (u++((⟨#[123]⟩:ByteArray)++(⟨tx.toArray⟩:ByteArray)++(⟨#[125]⟩:ByteArray))) W (by unfold St.aK;simp) (by simp only[ByteArray.size_append,q7];show _+(1+_+1)<=_;omega) hnb.out (nE.out.ai hW) (Below.ai (Below.refl _ _) hBr hW)
    have hsz:=λW (hW:ac wr W)=>Nat.le_trans hBr hW.size
    have dq:=aa (λW hW=>And.intro (hfin W hW) (hsz W hW));clear hfin hwd k1 hsz;go_wp2;exact⟨dq.out _ uZ,by simp[intOf];omega⟩
   have q5:(kd==5)=false:=by simpa using k5
   have cC:St.aQ kd=true:=by
    rcases cN with h|h|h
    ·exact absurd h k1
    ·exact absurd h k5
    exact h
   have kW:=iw.out (show St.bu 2 (kd,tx,id)=true by unfold St.bu;simp[cC]);have hr:=aa (iH.out kW);clear kW cC cN k1 k5 hwd;go_wp2;go_ret2;exact⟨by rw[hr.out];rfl,HU.out.trans uZ⟩
  have hkn:k=n:=by omega
  subst hkn;have hft:f.take k=f:=List.take_of_length_le (by omega);rw[hft]at oI mE;have hr:=aa (wH.out mE.out);have hu2:u=⟨(f.flatMap (St.aK 2)).toArray⟩:=by rw[<-oI.out,bn]
  have aX:=aa hu2;clear hlt hft hu2 mE;go_wp2;go_ret2;exact⟨by rw[hr.out,aX.out];rfl,HU.out⟩
def mO:List (UInt8 × ByteArray):=[(34,⟨#[34,34]⟩),(123,⟨#[123,123]⟩)]
theorem R0:th mO:=⟨by decide,by decide,by intro p hp;simp[mO]at hp;rcases hp with rfl|rfl<;>decide,by decide⟩
theorem Kw(c:UInt8):fg mO.reverse c=St.bj 3 c:=by
 by_cases h1:c=34
 ·subst h1;rfl
 by_cases h2:c=123
 ·subst h2;rfl
 have e1:c.toNat≠34:=λe=>h1 (UInt8.toNat_inj.1 e)
 have e2:c.toNat≠123:=λe=>h2 (UInt8.toNat_inj.1 e)
 have:cD mO.reverse c=none:=by
  show cD [(123,⟨#[123,123]⟩),(34,⟨#[34,34]⟩)] c=none
  simp[cD,Ne.symm h1,Ne.symm h2]
 rw[lP this];simp[St.bj,e1,e2]
theorem GN(t:List UInt8):t.flatMap (fg mO.reverse)=t.flatMap (St.bj 3):=by
 congr 1;funext c;exact Kw c
def IM(w0:Ys)(B rb:Nat)(f:List St.It)(n:Nat)(s6 kx:Value)(wr:Ys):Prop:=
 ∃(k:Nat) (u:ByteArray),k<=n/\kx=Yh Yn k/\s6=Yi u/\u.1.1=(f.take k).flatMap (St.aK 3)/\u.size<=5*aV (f.take k)+5*k/\(f.take k).any (St.bu 3)=false/\gO wr B rb mO/\Below B w0 wr
theorem EG(A:Option Addr)(n c:Nat)(f:List St.It)(w:Ys)(hn:f.length=n)(hnc:n<=c)(dG:c<=9223372036854775807)(h:aH w A f)(hl:n<=1000000000)(ht:aV f<=1000000000000) :
  Calls Tryz.prog 90 #[Yj A n c] w λe w'=>e=Yp (Ym #[Yi ⟨(St.bw 3 f).1.toArray⟩,Yh Yn (St.bw 3 f).2])/\ac w w':=by
 have H:=aa h;have HN:=aa hn;have HT:=aa ht;have hv:=aa (rX A n c f w hn hnc dG h (by omega) (by omega));clear h hn
 by_cases dT:St.bN f=0
 rotate_left 1
 ·have hr:=aa (show St.bw 3 f=([],St.bN f)by unfold St.bw;rw[if_pos dT]);have z:(St.bN f==0)=false:=by simpa using dT
  have z2:(St.bN f != 0)=true:=by simpa using dT
  generalize St.bN f=ev at *;clear dT;go_enter Tryz.func90,Tryz.ntmps90;go_wp2_with fail;refine hv.out.mono ?_;rintro e w' ⟨rfl,hu⟩;have HU:=aa hu;clear hu;go_wp2;go_ret2;exact⟨by rw[hr.out];rfl,HU.out⟩
 have hok:=λ(h:f.any (St.bu 3)=false)=>show St.bw 3 f=(f.flatMap (St.aK 3),0)by unfold St.bw;rw[if_neg (by simp[dT]),h];rfl
 have hbad:=λ(h:f.any (St.bu 3)=true)=>show St.bw 3 f=([],7)by unfold St.bw;rw[if_neg (by simp[dT]),h];rfl
 have hlen:St.aA f<=1024:=by
  refine Nat.not_lt.1 λe=>?_
  unfold St.bN at dT;rw[if_pos (.inr e)]at dT;cases dT
 have cN:=sv dT;have IU:=aa cN;clear cN;rw[dT]at hv;have wH:=aa hok;have iH:=aa hbad;have HLEN:=aa hlen;clear hok hbad dT ht hlen;go_enter Tryz.func90,Tryz.ntmps90;go_wp2_with fail;refine hv.out.mono ?_;rintro e w1 ⟨rfl,hu⟩;have fY:=aa hu;have CZ:=hu.size;clear hu hv;have As:=λ(W:Ys) (ab:Nat) (hc:∀j u,((dJ mO).map Yi)[j]?=some u->W.cell? ⟨ab,j,none⟩=some u)=>r6 ab 4 (dJ mO) W rfl (by decide) (by omega) hc
 have zA:=aa As;clear As;go_wp2_with fail;refine(zA.out _ w1.1.size ?_).mono ?_
 ·intro j u hj
  match j,hj with
  | 0,hj=>simp[dJ,mO]at hj;subst hj;simp
  | 1,hj=>simp[dJ,mO]at hj;subst hj;simp
  | 2,hj=>simp[dJ,mO]at hj;subst hj;simp
  | 3,hj=>simp[dJ,mO]at hj;subst hj;simp
  | j+4,hj=>simp[dJ,mO]at hj
 rintro e w2 ⟨rb,rfl,hrep,hu2⟩;have l9:Below (w1.alloc (Yo #[Yi ⟨#[34]⟩,Yi ⟨#[34,34]⟩,Yi ⟨#[123]⟩,Yi ⟨#[123,123]⟩] 9)).1.size (w1.alloc (Yo #[Yi ⟨#[34]⟩,Yi ⟨#[34,34]⟩,Yi ⟨#[123]⟩,Yi ⟨#[123,123]⟩] 9)) w2:=hu2.below;have pj:ac w (w1.alloc (Yo #[Yi ⟨#[34]⟩,Yi ⟨#[34,34]⟩,Yi ⟨#[123]⟩,Yi ⟨#[123,123]⟩] 9)):=fY.out.alloc _;generalize(w1.alloc (Yo #[Yi ⟨#[34]⟩,Yi ⟨#[34,34]⟩,Yi ⟨#[123]⟩,Yi ⟨#[123,123]⟩] 9))=w1' at hrep hu2 l9 pj;have Af:w1'.1.size<=w2.1.size:=hu2.size;have Cc:=aa pj;have pX:gO w2 w1'.1.size rb mO:=.inl hrep;have oH:=aa pX;have oD:=aa l9;clear hrep hu2 l9 pj pX fY CZ zA;generalize hB:w1'.1.size=B at oH oD Af;go_wp2_with fail;go_loopw [6,18] (λs6 kx wr=>IM w1' B rb f n s6 kx wr/\B<=wr.1.size) (λ_ kx _=>n+1-(intOf kx).toNat)
 case atStart=>exact⟨⟨0,⟨#[]⟩,by omega,rfl,rfl,rfl,by show 0<=_;omega,rfl,oH.out,oD.out⟩,Af⟩
 case round=>
  obtain⟨⟨k,u,hk,rfl,rfl,mN,kg,gD,mL,hbl⟩,hBr⟩:=hrel;have nE:=aa mL;have df:=aa hbl;have Aw:ac w1' wr:=ac.cn (by rw[hB];exact hbl);have HU:=aa (Cc.out.trans Aw);have oI:=aa mN;have mE:=aa gD;clear mN gD mL hbl Aw oH oD;have hN:=HN.out;have hT:=HT.out;have hb2:=fK f k
  by_cases hlt:k<n
  ·have aI:k<f.length:=by omega
   obtain⟨b,off,rfl,hb,hc⟩:=(H.out.ai HU.out) (by omega);obtain⟨c0,c1,c2⟩:=hc k aI;have hfl:=uE 3 f k aI;have hb3:=fK f (k+1);have htk:=jw f k aI;have hwd:=yR f k aI;have hL:=HLEN.out;have cN:=IU.out f[k] (List.getElem_mem aI);have lj:=rF (St.bu 3) f k aI mE.out;have eO:=pN (St.bu 3) f k aI;generalize f[k]=x at c0 c1 c2 hfl htk lj eO hwd cN;obtain⟨kd,tx,id⟩:=x;simp only at c0 c1 c2 htk hwd cN;haveI:af b wr:=af.of hb;have q7:(⟨tx.toArray⟩:ByteArray).size=tx.length:=by show tx.toArray.size=_;simp
   have step:∀(v:ByteArray) (W:Ys),v.1.1=u.1.1++St.aK 3 (kd,tx,id)->v.size<=u.size+5*tx.length+5->St.bu 3 (kd,tx,id)=false->gO W B rb mO->Below B wr W->IM w1' B rb f n (Yi v) (Yh Yn ((k:Int)+1)) W:=λv W h1 h2 h3 h4 h5=>
    ⟨k+1,v,by omega,congrArg (Yh Yn) (by omega),rfl,by rw[h1,oI.out,hfl],by rw[htk];omega,lj h3,h4,df.out.trans h5⟩
   have STEP:=aa step;have iw:=aa eO;have pJ:=aa htk;have L9:u.size<=6000000000000:=by omega
   have L8:tx.length<=1000000000000:=by omega
   clear step eO hfl lj hc aI
   by_cases k1:kd=1
   ·subst k1;have htl:tx.length<=1024:=by have:=hwd rfl;omega
    have hre:=λ(W:Ys) (hR:gO W B rb mO) (hB:B<=W.1.size)=>qG B rb mO ⟨tx.toArray⟩ W hR R0 hB (by omega)
    have hf2:(⟨tx.toArray⟩:ByteArray).1.1.flatMap (fg mO.reverse)=tx.flatMap (St.bj 3):=GN tx;rw[hf2]at hre;have CT:=Cz 3 tx;have hnb:=aa (show St.bu 3 (1,tx,id)=false by unfold St.bu;rfl);have sL:St.aK 3 (1,tx,id)=tx.flatMap (St.bj 3):=by unfold St.aK;rfl
    have zu:=aa sL;generalize tx.flatMap (St.bj 3)=et at hre CT zu;have sM:(⟨et.toArray⟩:ByteArray).size=et.length:=by show et.toArray.size=_;simp
    have y1:¬9223372036854775807<u.size+(⟨et.toArray⟩:ByteArray).size:=by rw[sM];omega
    have y2:¬9223372036854775807<u.size+et.length:=by omega
    have IX:=aa hre;have cZ:(wr.alloc (Yo #[Yh Yn 1,Yi ⟨tx.toArray⟩,Yh Yn id] 36)).1.size=wr.1.size+1:=by simp
    clear hre hf2 sL hwd;go_wp2_with fail;refine(IX.out _ (nE.out.ai ((ac.refl _).alloc _)) (by rw[cZ];omega)).mono ?_;rintro e w3 ⟨rfl,hr3,hb3'⟩;have ma:Below B wr w3:=(Below.ai (Below.refl _ _) hBr ((ac.refl wr).alloc _)).trans hb3';have hfin:=aa (STEP.out (u++(⟨et.toArray⟩:ByteArray)) w3 (by rw[zu.out];simp) (by rw[ByteArray.size_append,sM];omega) hnb.out (.inr hr3) ma);have Ah:=ma.size;clear hr3 hb3' ma c0 c1 c2;go_wp2;exact⟨⟨hfin.out,by omega⟩,by simp[intOf];omega⟩
   have q1:(kd==1)=false:=by simpa using k1
   by_cases k5:kd=5
   ·subst k5;have hnb:=aa (show St.bu 3 (5,tx,id)=false by unfold St.bu St.aQ;rfl);have y1:¬9223372036854775807<1+tx.length:=by omega
    have y2:¬9223372036854775807<1+tx.length+1:=by omega
    have y3:¬9223372036854775807<u.size+(1+tx.length+1):=by omega
    have hfin:=λW (hW:ac wr W)=>STEP.out (u++((⟨#[123]⟩:ByteArray)++(⟨tx.toArray⟩:ByteArray)++(⟨#[125]⟩:ByteArray))) W (by unfold St.aK;simp) (by simp only[ByteArray.size_append,q7];show _+(1+_+1)<=_;omega) hnb.out (nE.out.ai hW) (Below.ai (Below.refl _ _) hBr hW)
    have hsz:=λW (hW:ac wr W)=>Nat.le_trans hBr hW.size
    have dq:=aa (λW hW=>And.intro (hfin W hW) (hsz W hW));clear hfin hwd k1 hsz;go_wp2;exact⟨dq.out _ uZ,by simp[intOf];omega⟩
   have q5:(kd==5)=false:=by simpa using k5
   have cC:St.aQ kd=true:=by
    rcases cN with h|h|h
    ·exact absurd h k1
    ·exact absurd h k5
    exact h
   have kW:=iw.out (show St.bu 3 (kd,tx,id)=true by unfold St.bu;simp[cC]);have hr:=aa (iH.out kW);clear kW cC cN k1 k5 hwd;go_wp2;go_ret2;exact⟨by rw[hr.out];rfl,HU.out.trans uZ⟩
  have hkn:k=n:=by omega
  subst hkn;have hft:f.take k=f:=List.take_of_length_le (by omega);rw[hft]at oI mE;have hr:=aa (wH.out mE.out);have hu2:u=⟨(f.flatMap (St.aK 3)).toArray⟩:=by rw[<-oI.out,bn]
  have aX:=aa hu2;clear hlt hft hu2 mE;go_wp2;go_ret2;exact⟨by rw[hr.out,aX.out];rfl,HU.out⟩
end
section
theorem LH(d:ByteArray)(w:Ys)(hd:d.size<=1000000000):Calls Tryz.prog 49 #[Yh Yn 2,Yi d] w (Mk.eV (D2 d.1.1) w):=by
 have H:=aa (K7 d w (by omega));have hR:iY d=D2 d.1.1:=by unfold iY D2;rw[St.aC]
 rw[hR]at H;generalize D2 d.1.1=R at *;obtain⟨f,cu,pl,er⟩:=R;clear hR;go_enter Tryz.func49,Tryz.ntmps49;go_wp2_with fail;refine H.out.mono ?_;rintro e w' ⟨A,c,rfl,hP,h1,h2,hu⟩;have HE:=aa (show Mk.eV (f,cu,pl,er) w (Yp (Ym #[Yj A cu.length c,Yh Yn er])) w' from⟨A,c,rfl,hP,h1,h2,hu⟩);clear hP h1 h2 hu;go_wp2;go_ret2;exact HE.out
theorem LI(d:ByteArray)(w:Ys)(hd:d.size<=1000000000):Calls Tryz.prog 49 #[Yh Yn 3,Yi d] w (Mk.eV (D3 d.1.1) w):=by
 have H:=aa (Sh.KI d w (by omega));have hR:Sh.gx d=D3 d.1.1:=by unfold Sh.gx D3;rw[St.aC]
 rw[hR]at H;generalize D3 d.1.1=R at *;obtain⟨f,cu,pl,er⟩:=R;clear hR;go_enter Tryz.func49,Tryz.ntmps49;go_wp2_with fail;refine H.out.mono ?_;rintro e w' ⟨A,c,rfl,hP,h1,h2,hu⟩;have HE:=aa (show Mk.eV (f,cu,pl,er) w (Yp (Ym #[Yj A cu.length c,Yh Yn er])) w' from⟨A,c,rfl,hP,h1,h2,hu⟩);clear hP h1 h2 hu;go_wp2;go_ret2;exact HE.out
theorem GP(A:Option Addr)(n c:Nat)(f:List St.It)(w:Ys)(hn:f.length=n)(hnc:n<=c)(dG:c<=9223372036854775807)(h:aH w A f)(hl:n<=1000000000)(ht:aV f<=1000000000000) :
  Calls Tryz.prog 50 #[Yh Yn 2,Yj A n c] w λe w'=>e=Yp (Ym #[Yi ⟨(St.bw 2 f).1.toArray⟩,Yh Yn (St.bw 2 f).2])/\ac w w':=by
 have H:=aa (EN A n c f w hn hnc dG h hl ht);generalize St.bw 2 f=R at *;obtain⟨s,er⟩:=R;clear h hn ht;go_enter Tryz.func50,Tryz.ntmps50;go_wp2_with fail;refine H.out.mono ?_;rintro e w' ⟨rfl,hu⟩;have HU:=aa hu;clear hu;go_wp2;go_ret2;exact⟨rfl,HU.out⟩
theorem GQ(A:Option Addr)(n c:Nat)(f:List St.It)(w:Ys)(hn:f.length=n)(hnc:n<=c)(dG:c<=9223372036854775807)(h:aH w A f)(hl:n<=1000000000)(ht:aV f<=1000000000000) :
  Calls Tryz.prog 50 #[Yh Yn 3,Yj A n c] w λe w'=>e=Yp (Ym #[Yi ⟨(St.bw 3 f).1.toArray⟩,Yh Yn (St.bw 3 f).2])/\ac w w':=by
 have H:=aa (EG A n c f w hn hnc dG h hl ht);generalize St.bw 3 f=R at *;obtain⟨s,er⟩:=R;clear h hn ht;go_enter Tryz.func50,Tryz.ntmps50;go_wp2_with fail;refine H.out.mono ?_;rintro e w' ⟨rfl,hu⟩;have HU:=aa hu;clear hu;go_wp2;go_ret2;exact⟨rfl,HU.out⟩
theorem Sl(l:List UInt8):D2 l=St.eK St.b7 l 0 0 [] [] [] 0:=by
 unfold D2 St.eK;exact(St.rK (λl k t n h=>by have:=(St.iZ h).1;omega) _ _ _ _ _ _ _).symm
theorem Sm(l:List UInt8):D3 l=St.eK St.cm l 0 0 [] [] [] 0:=by
 unfold D3 St.eK;refine(St.rK (λl k t n h=>?_) _ _ _ _ _ _ _).symm
 match l,h with
 | c :: r,h=>rcases St.nz h with⟨h,_⟩|⟨h,_⟩<;>omega
theorem wX{fmt:Int}(h:fmt=1\/fmt=2\/fmt=3)(l:List UInt8):lC fmt l=St.eK (St.EO fmt) l 0 0 [] [] [] 0:=by
 rcases h with rfl|rfl|rfl
 ·rfl
 ·exact Sl l
 exact Sm l
theorem Cv{fmt:Int}(h:fmt=1\/fmt=2\/fmt=3)(d:List UInt8)(he:(lC fmt d).2.2.2=0):St.wu d.length (lC fmt d):=by
 rw[wX h]at he |-;unfold St.eK at he |-;exact St.uC (St.yC h).ok d.length d 0 0 [] [] [] 0 (by constructor) (by simp) rfl (by simp) (by simp) (by omega) (by omega) (by simp[aV]) he
theorem US(fmt:Int)(w:Ys)(h:fmt=1\/fmt=2\/fmt=3)(hL:Mk.jQ w):mP w fmt (lC fmt) (sD fmt):=by
 rcases h with rfl|rfl|rfl
 ·exact NP w hL
 ·exact⟨.inr (.inl rfl),λd w' hw hd=>(Ul w).2 d w' hw hd,λd w' _ hd=>wV d w' hd,λd w' _ hd=>LH d w' hd,λA n c f w' _ hn hnc hc h hl ht=>GP A n c f w' hn hnc hc h hl ht,λd h=>Cv (.inr (.inl rfl)) d h⟩
 exact⟨.inr (.inr rfl),λd w' hw hd=>(Um w hL.1).2 d w' hw hd,λd w' _ hd=>wW d w' hd,λd w' _ hd=>LI d w' hd,λA n c f w' _ hn hnc hc h hl ht=>GQ A n c f w' hn hnc hc h hl ht,λd h=>Cv (.inr (.inr rfl)) d h⟩
namespace St
theorem GB{b:List It}{x:It}(h:bh b x=0)(h1:x.1≠1):x.2.1.length<=64:=by
 unfold bh at h;rw[if_neg h1]at h
 split at h
 ·split at h
  ·rename_i hn;have:=(r5 hn.1).1;omega
  cases h
 split at h
 ·split at h
  ·rename_i hn
   have:=hn.1
   unfold aN at this;simp only[Bool.and_eq_true,decide_eq_true_eq]at this;exact this.1
  cases h
 split at h
 ·split at h
  ·rename_i hn;have:=(r5 hn.1).1;omega
  cases h
 cases h
theorem Ad:∀(f b:List It),dc b f=0->∀x∈f,x.1≠1->x.2.1.length<=64
 | y :: f,b,h,x,hx,h1=>by
  rw[dc]at h
  split at h
  ·rename_i hc;exact absurd h hc
  rename_i hc
  rcases List.mem_cons.1 hx with rfl|hx
  ·exact GB (by simpa using hc) h1
  exact Ad f _ h x hx h1
theorem Fe(fmt:Int):∀f:List It,(∀x∈f,x.1≠1->x.2.1.length<=64)->(f.flatMap (aK fmt)).length<=5*aA f+67*f.length
 | [],_=>by simp
 | x :: f,h=>by
  have ih:=Fe fmt f λy hy=>h y (by simp[hy])
  rw[List.flatMap_cons,List.length_append,List.length_cons];have e:aA (x :: f)=aZ x+aA f:=by simp[aA]
  have hb:∀t:List UInt8,(t.flatMap (bj fmt)).length<=5*t.length:=λt=>by
   induction t with
   | nil=>simp
   | cons c t ih=>rw[List.flatMap_cons,List.length_append,List.length_cons];have:=(li fmt c).2;omega
  have hx:(aK fmt x).length<=5*aZ x+67:=by
   unfold aK aZ
   split
   ·have:=hb x.2.1;omega
   rename_i h1
   have:=h x (by simp) h1
   repeat' split
   all_goals simp
   all_goals omega
  omega
theorem Jk(fmt:Int)(f:List It):(bw fmt f).1.length<=40000:=by
 unfold bw
 split
 ·simp
 split
 ·simp
 rename_i h _
 have hv:bN f=0:=by simpa using h
 unfold bN at hv
 split at hv
 ·cases hv
 rename_i hl
 have:=Fe fmt f (Ad f [] hv)
 simp only;omega
theorem vn{E:List UInt8->El}:∀(fuel:Nat) (l:List UInt8) (a d:Nat) (f:List It) (cuts:List Nat) (op:List It) (c:Nat),(du E fuel l a d f cuts op c).2.2.2≠0->(du E fuel l a d f cuts op c).1=[]
 | 0,l,a,d,f,cuts,op,c,h=>by
  rw[du]at h |-;unfold jH at h |-
  split
  ·rename_i ho;rw[if_pos ho]at h;exact absurd rfl h
  rfl
 | fuel+1,l,a,d,f,cuts,op,c,h=>by
  rw[du]at h |-
  split
  ·rename_i h0
   rw[if_pos h0]at h;unfold jH at h |-
   split
   ·rename_i ho;rw[if_pos ho]at h;exact absurd rfl h
   rfl
  rename_i h0
  rw[if_neg h0]at h
  split
  ·rfl
  rename_i k t n hq
  rw[hq]at h;simp only at h
  split
  ·rename_i hk
   rw[if_pos hk]at h;exact vn fuel _ _ _ _ _ _ _ h
  rename_i hk
  rw[if_neg hk]at h
  split
  ·rfl
  rename_i i cK c' hs
  rw[hs]at h;simp only at h
  split
  ·rfl
  rename_i hf
  rw[if_neg hf]at h;exact vn fuel _ _ _ _ _ _ _ h
end St
theorem Lp{fmt:Int}(hk:fmt=1\/fmt=2\/fmt=3)(ps:List St.Pt)(k:Int):(CD fmt ps k).1.length<=512/\aV (CD fmt ps k).1<=(St.b6 ps).length:=by
 unfold CD;rw[if_pos hk]
 by_cases hc:(St.bO (lC fmt) ps k).2.2.2=0
 ·obtain⟨j,hj,rfl,_,iO,_⟩:=St.yx hc;rw[iO]at hc |-;have hok:=Cv hk _ hc;have:=tX ps j hj
  exact⟨hok.len,Nat.le_trans hok.aV this⟩
 have:(St.bO (lC fmt) ps k).1=[]:=by
  unfold St.bO at hc |-
  split
  ·rename_i hu
   rw[if_pos hu,wX hk]at hc;rw[wX hk];exact St.vn _ _ _ _ _ _ _ _ hc
  rfl
 rw[this];simp[aV]
theorem Cw(fmt:Int)(hk:fmt=1\/fmt=2\/fmt=3)(A B C:Option Addr)(n c m d m2 e0:Nat)(ps:List St.Pt)(k:Int)(rs:List (Int × Int))(ts:List (List St.It))(w:Ys)(hL:Mk.jQ w)(hn:ps.length=n)(hnc:n<=c)(dG:c<=9223372036854775807)(hm:rs.length=m)(hm2:ts.length=m2)(h:bk w A ps)(hB:eQ w B rs)(hC:gJ w C ts)(hl:n<=1000000)(hr:(St.b6 ps).length<=1000000)(fu:m<=20)
  (hts:∀t∈ts,t.length<=1100/\aV t<=20000000):Calls Tryz.prog 16 #[.agg #[Yh Yn fmt,Yj A n c],Yh Yn k,Yj B m d,Yj C m2 e0] w (gK (St.fQ (lC fmt) (sD fmt) (St.bw fmt) fmt ps k rs ts) w):=
 tr A B C n c m d m2 e0 ps k rs ts w (US fmt w hk hL) hn hnc dG hm hm2 h hB hC hl hr fu hts (λt _=>by have:=St.Jk fmt t;omega)
end
