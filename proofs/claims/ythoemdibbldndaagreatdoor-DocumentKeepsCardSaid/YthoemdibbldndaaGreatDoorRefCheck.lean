/- The contracts of the reference's IsContent, Check and Validate: what they give is. -/
import Derived.Test.YthoemdibbldndaaGreatDoorGB
set_option linter.all false
set_option maxHeartbeats 0
set_option maxRecDepth 20000
open Go.Value renaming int->Yh,string->Yi,bool->Yk
open Go.IntKind renaming i64->Yn
open Go.Ending renaming returned->Yp
open Option renaming none->Yq,some->Yr
open Go renaming World->Ys
namespace Go.Proofs.YthoemdibbldndaaGreatDoor
open Go.RowKit
theorem kL(t:List UInt8)(w:Ys)(hs:t.length<=4611686018427387904):Calls Tryz.prog 105 #[Yi ⟨t.toArray⟩] w λe w'=>e=Yp (Yi ⟨(St.nameOf t).toArray⟩)/\ac w w':=by
 refine(Bb ⟨t.toArray⟩ w (by show t.toArray.size<=_;simpa using hs)).mono ?_;rintro e w' ⟨u,rfl,hu,rfl⟩;refine⟨?_,ac.refl _⟩;rw[<-bn u,hu]
def M8(s:ByteArray)(i:Value):Prop:=∃k:Nat,i=Yh Yn k/\k<=s.size/\s.1.1.all St.fM=(s.1.1.drop k).all St.fM
theorem wT{s:List UInt8}(h:s.all St.fM=false):St.aN s=false:=by unfold St.aN;simp[h]
theorem mx(s:ByteArray)(w:Ys)(hs:s.size<=4611686018427387904):Calls Tryz.prog 178 #[Yi s] w λe w'=>e=Yp (Yk (St.aN s.1.1))/\w=w':=by
 have HLEN:=aa (St.aC s)
 by_cases h64:64<s.size
 ·have z:(64:Int)<s.size:=by omega
  have hr:=aa (show St.aN s.1.1=false by unfold St.aN;rw[HLEN.out,decide_eq_false (by omega)];rfl);go_enter Tryz.func178,Tryz.ntmps178;go_wp2;go_ret;exact⟨az hr.out.symm,rfl⟩
 have z:¬(64:Int)<s.size:=by omega
 go_enter Tryz.func178,Tryz.ntmps178;go_wp2;go_loopw [3] (λi wr=>M8 s i/\w=wr) (λi _=>s.size+1-(intOf i).toNat)
 case atStart=>exact⟨⟨0,rfl,by omega,rfl⟩,rfl⟩
 case round=>
  obtain⟨⟨k,rfl,hk,hl⟩,rfl⟩:=hrel;have HL:=aa hl;clear hl
  by_cases hlt:k<s.size
  ·have av:=St.drop_at s k hlt;have z1:(k:Int)<s.size:=by omega
   cases hcc:St.fM s[k]
   ·have hr:=aa (wT (s:=s.1.1) (by rw[HL.out,av];simp[hcc]));have qA:=of_decide_eq_false hcc;clear av hcc
    by_cases q1:s[k].toNat<32
    ·have p1:(s[k].toNat:Int)<32:=by omega
     go_wp2;go_ret;exact⟨az hr.out.symm,rfl⟩
    have p1:¬(s[k].toNat:Int)<32:=by omega
    by_cases q2:126<s[k].toNat
    ·have p2:(126:Int)<(s[k].toNat:Int):=by omega
     go_wp2;go_ret;exact⟨az hr.out.symm,rfl⟩
    have p2:¬(126:Int)<(s[k].toNat:Int):=by omega
    rcases(show s[k].toNat=60\/s[k].toNat=62\/s[k].toNat=123\/s[k].toNat=125 by omega)with q|q|q|q
    ·have p3:((s[k].toNat:Int)==60)=true:=by simp;omega
     go_wp2;go_ret;exact⟨az hr.out.symm,rfl⟩
    ·have p3:((s[k].toNat:Int)==60)=false:=by simp;omega
     have p4:((s[k].toNat:Int)==62)=true:=by simp;omega
     go_wp2;go_ret;exact⟨az hr.out.symm,rfl⟩
    ·have p3:((s[k].toNat:Int)==60)=false:=by simp;omega
     have p4:((s[k].toNat:Int)==62)=false:=by simp;omega
     have p5:((s[k].toNat:Int)==123)=true:=by simp;omega
     go_wp2;go_ret;exact⟨az hr.out.symm,rfl⟩
    have p3:((s[k].toNat:Int)==60)=false:=by simp;omega
    have p4:((s[k].toNat:Int)==62)=false:=by simp;omega
    have p5:((s[k].toNat:Int)==123)=false:=by simp;omega
    have p6:((s[k].toNat:Int)==125)=true:=by simp;omega
    go_wp2;go_ret;exact⟨az hr.out.symm,rfl⟩
   have hl2:=aa (show s.1.1.all St.fM=(s.1.1.drop (k+1)).all St.fM by rw[HL.out,av];simp[hcc]);have qA:=of_decide_eq_true hcc;have p1:¬(s[k].toNat:Int)<32:=by omega
   have p2:¬(126:Int)<(s[k].toNat:Int):=by omega
   have p3:((s[k].toNat:Int)==60)=false:=by simp;omega
   have p4:((s[k].toNat:Int)==62)=false:=by simp;omega
   have p5:((s[k].toNat:Int)==123)=false:=by simp;omega
   have p6:((s[k].toNat:Int)==125)=false:=by simp;omega
   clear av hcc qA;go_wp2;exact⟨⟨⟨k+1,congrArg (Yh Yn) (by omega),by omega,hl2.out⟩,by trivial⟩,by simp[intOf];omega⟩
  have pW:k=s.size:=by omega
  subst pW;have hall:s.1.1.all St.fM=true:=by rw[HL.out,List.drop_of_length_le (by simp)];rfl
  have hr:St.aN s.1.1=(St.aE (St.nameOf s.1.1)&&((decide ((St.nameOf s.1.1).length=s.size) || decide ((St.nameOf s.1.1).length+1<s.size))&&(s.1.1.getLast? != Yr 47))):=by
   unfold St.aN;rw[HLEN.out,decide_eq_true (by omega),hall];rfl
  obtain⟨nm,hnmd⟩:∃nm,St.nameOf s.1.1=nm:=⟨_,rfl⟩;have pd:nm.length<=s.size:=by rw[<-hnmd,<-HLEN.out];exact(List.takeWhile_prefix _).length_le
  rw[hnmd]at hr;have hnc:=Bb s w hs;rw[hnmd]at hnc;have HR:=aa hr;have Tm:=aa hnc;clear hr hnc hall hlt hk hnmd;go_wp2_with fail;refine Tm.out.mono ?_;rintro e w' ⟨t,rfl,ht,rfl⟩;have hts:t.size=nm.length:=by rw[<-ht,St.aC]
  have hin:=ny t w (by omega);rw[ht]at hin;have pH:=aa hin;clear hin ht Tm;cases hb:St.aE nm
  ·rw[hb]at pH HR;clear hb;go_wp2_with fail;refine pH.out.mono ?_;rintro e w' ⟨rfl,rfl⟩;go_wp2;go_ret;exact⟨az (by rw[HR.out];rfl),rfl⟩
  rw[hb]at pH HR;have hn0:nm≠[]:=by intro e;subst e;cases hb
  have gu:0<nm.length:=List.length_pos_iff.2 hn0;obtain⟨m,hm⟩:∃m,s.size=m+1:=⟨s.size-1,by omega⟩;have fu:m<s.size:=by omega
  have hlast:s.1.1.getLast?=Yr s[m]:=by
   rw[List.getLast?_eq_getElem?,HLEN.out,show s.size-1=m by omega];exact List.getElem?_eq_getElem (by rw[HLEN.out];exact fu)
  rw[hlast]at HR;have z3:(s.size:Int)-1=(m:Int):=by omega
  have z4:(m:Int)<s.size:=by omega
  have Q6:(Yr s[m] != Yr 47)=!(((s[m].toNat:Int)==47)):=by
   by_cases h:s[m].toNat=47
   ·have:s[m]=47:=by apply UInt8.toNat_inj.1;simpa using h
    rw[this];rfl
   have h2:s[m]≠47:=λe=>h (by rw[e];rfl)
   have h3:((s[m].toNat:Int)==47)=false:=by simp;omega
   rw[h3];simp[h2]
  rw[Q6]at HR;clear hb hn0 hlast Q6
  by_cases q1:nm.length=s.size
  ·have p1:((t.size:Int)==(s.size:Int))=true:=by simp;omega
   rw[decide_eq_true q1]at HR
   by_cases q3:s[m].toNat=47
   ·have p3:((s[m].toNat:Int)==47)=true:=by simp;omega
    have p4:((s[m].toNat:Int) != 47)=false:=by simp;omega
    rw[p3]at HR;go_wp2_with fail;refine pH.out.mono ?_;rintro e w' ⟨rfl,rfl⟩;go_wp2;go_ret;exact⟨az (by rw[HR.out];rfl),rfl⟩
   have p3:((s[m].toNat:Int)==47)=false:=by simp;omega
   have p4:((s[m].toNat:Int) != 47)=true:=by simp;omega
   rw[p3]at HR;go_wp2_with fail;refine pH.out.mono ?_;rintro e w' ⟨rfl,rfl⟩;go_wp2;go_ret;exact⟨az (by rw[HR.out];rfl),rfl⟩
  have p1:((t.size:Int)==(s.size:Int))=false:=by simp;omega
  rw[decide_eq_false q1]at HR
  by_cases q2:nm.length+1<s.size
  ·have p2:(t.size:Int)+1<s.size:=by omega
   rw[decide_eq_true q2]at HR
   by_cases q3:s[m].toNat=47
   ·have p3:((s[m].toNat:Int)==47)=true:=by simp;omega
    have p4:((s[m].toNat:Int) != 47)=false:=by simp;omega
    rw[p3]at HR;go_wp2_with fail;refine pH.out.mono ?_;rintro e w' ⟨rfl,rfl⟩;go_wp2;go_ret;exact⟨az (by rw[HR.out];rfl),rfl⟩
   have p3:((s[m].toNat:Int)==47)=false:=by simp;omega
   have p4:((s[m].toNat:Int) != 47)=true:=by simp;omega
   rw[p3]at HR;go_wp2_with fail;refine pH.out.mono ?_;rintro e w' ⟨rfl,rfl⟩;go_wp2;go_ret;exact⟨az (by rw[HR.out];rfl),rfl⟩
  have p2:¬(t.size:Int)+1<s.size:=by omega
  rw[decide_eq_false q2]at HR;go_wp2_with fail;refine pH.out.mono ?_;rintro e w' ⟨rfl,rfl⟩;go_wp2;go_ret;exact⟨az (by rw[HR.out];rfl),rfl⟩
def kC(W:Ys)(f:List St.It)(x:St.It)(n:Nat)(n9:Value)(wr:Ys):Prop:=∃j:Nat,j<=n/\n9=Yh Yn j/\(∀y∈f.take j,St.bE x y=false)/\ac W wr
theorem kC.ai{W:Ys}{f:List St.It}{x:St.It}{n:Nat}{n9:Value}{wr w':Ys}(h:kC W f x n n9 wr)(u:ac wr w'):kC W f x n n9 w':=by
 obtain⟨j,h1,h2,h3,h4⟩:=h;exact⟨j,h1,h2,h3,h4.trans u⟩
theorem uz{f:List St.It}{x:St.It}{j:Nat}(h:∀y∈f.take j,St.bE x y=false)(hj:j<f.length)(hc:St.bE x f[j]=false):∀y∈f.take (j+1),St.bE x y=false:=by
 intro y hy;rw[List.take_add_one,List.getElem?_eq_getElem hj]at hy;rcases List.mem_append.1 hy with hy|hy
 ·exact h y hy
 simp at hy;subst hy;exact hc
theorem rH{f:List St.It}{x:St.It}{j:Nat}(hj:j<f.length)(hc:St.bE x f[j]=true):f.any (St.bE x)=true:=List.any_eq_true.2 ⟨f[j],List.getElem_mem hj,hc⟩
theorem wR{f:List St.It}{x:St.It}{n:Nat}(h:∀y∈f.take n,St.bE x y=false)(hn:f.length=n):f.any (St.bE x)=false:=by
 rw[List.take_of_length_le (by omega)]at h;refine Bool.eq_false_iff.2 λe=>?_
 obtain⟨y,hy,hc⟩:=List.any_eq_true.1 e;rw[h y hy]at hc;cases hc
theorem pA(f:List St.It)(j:Nat)(h:j<f.length):f[j].2.1.length<=aV f:=by
 have:=fK f (j+1)
 rw[jw f j h]at this;omega
theorem Ic(A:Option Addr)(n c:Nat)(f:List St.It)(k:Int)(t:List UInt8)(i:Int)(w:Ys)(hn:f.length=n)(hnc:n<=c)(dG:c<=9223372036854775807)(h:aH w A f)(hl:n<=1000000000000)(ht:aV f<=4611686018427387904)(htl:t.length<=4611686018427387904) :
  Calls Tryz.prog 148 #[.slice A n c,.agg #[Yh Yn k,Yi ⟨t.toArray⟩,Yh Yn i]] w λe w'=>e=Yp (Yh Yn (St.bh f (k,t,i)))/\ac w w':=by
 have H:=aa h;have HN:=aa hn;have HT:=aa ht;have nC:=aa ((ac.refl w).alloc (.cells #[Yh Yn k,Yi ⟨t.toArray⟩,Yh Yn i] 36));have xC:(⟨t.toArray⟩:ByteArray).size=t.length:=by show t.toArray.size=_;simp
 have pd:=aa (λW=>ny ⟨t.toArray⟩ W (by omega));have tG:=aa (λW=>mx ⟨t.toArray⟩ W (by omega));clear h hn ht
 by_cases k1:k=1
 ·subst k1
  by_cases t0:t=[]
  ·subst t0;have hr:=aa (show St.bh f (1,[],i)=1 by unfold St.bh;simp);go_enter Tryz.func148,Tryz.ntmps148;go_wp2;go_ret;exact⟨ba hr.out.symm,uZ⟩
  have hte:((⟨t.toArray⟩:ByteArray).toList==[])=false:=by rw[Lib.toList_data];simpa using t0
  have Vf:t.isEmpty=false:=by simpa using t0
  by_cases i0:i=0
  ·subst i0
   by_cases n0:n=0
   ·subst n0;have hf:f=[]:=List.eq_nil_of_length_eq_zero HN.out;have hr:=aa (show St.bh f (1,t,0)=0 by unfold St.bh;simp[t0,hf]);clear t0 hf;go_enter Tryz.func148,Tryz.ntmps148;go_wp2;go_ret;exact⟨ba hr.out.symm,uZ⟩
   obtain⟨b,off,rfl,hb,hc⟩:=(H.out.ai nC.out) (by rw[HN.out];omega);obtain⟨m,rfl⟩:∃m,n=m+1:=⟨n-1,by omega⟩;have hm:m<f.length:=by rw[HN.out];omega
   obtain⟨c0,_,_⟩:=hc m hm;have hlast:f.getLast?=Yr f[m]:=by rw[List.getLast?_eq_getElem?,HN.out];simp[hm]
   have hr:St.bh f (1,t,0)=if f[m].1=1 then 1 else 0:=by unfold St.bh;simp[t0,hlast]
   generalize f[m]=y at c0 hr;obtain⟨yk,yt,yi⟩:=y;simp only at c0 hr;have HR:=aa hr;have CV:((m+1:Nat):Int)-1=(m:Int):=by omega
   haveI:af b (w.alloc (.cells #[Yh Yn 1,Yi ⟨t.toArray⟩,Yh Yn 0] 36)):=af.of hb;have QY:b<w.1.size\/b=w.1.size:=by simp at hb;omega
   clear t0 hc hr hlast n0 hb
   by_cases hyk:yk=1
   ·subst hyk;go_enter Tryz.func148,Tryz.ntmps148;go_wp2;go_ret;exact⟨ba (by rw[HR.out];rfl),uZ⟩
   have Vk:(yk==1)=false:=by simpa using hyk
   go_enter Tryz.func148,Tryz.ntmps148;go_wp2;go_ret;exact⟨ba (by rw[HR.out,if_neg hyk]),uZ⟩
  have z1:(i==0)=false:=by simpa using i0
  have z2:(i != 0)=true:=by simpa using i0
  have hr:=aa (show St.bh f (1,t,i)=1 by unfold St.bh;simp[i0]);clear t0 i0;go_enter Tryz.func148,Tryz.ntmps148;go_wp2;go_ret;exact⟨ba hr.out.symm,uZ⟩
 have z1:(k==1)=false:=by simpa using k1
 by_cases k5:k=5
 ·subst k5;clear k1 z1;cases hnb:St.aE t
  ·have hr:=aa (show St.bh f (5,t,i)=1 by unfold St.bh;simp[hnb]);have bt:Hid (∀W,Calls Tryz.prog 177 #[Yi ⟨t.toArray⟩] W λe w'=>e=Yp (Yk false)/\W=w'):=aa (λW=>by have:=pd.out W;simp only[hnb]at this;exact this);clear hnb;go_enter Tryz.func148,Tryz.ntmps148;go_wp2_with (go_at_call 177;refine(bt.out _).mono ?_;rintro e w' ⟨rfl,rfl⟩);go_ret;exact⟨ba hr.out.symm,uZ⟩
  have bt:Hid (∀W,Calls Tryz.prog 177 #[Yi ⟨t.toArray⟩] W λe w'=>e=Yp (Yk true)/\W=w'):=aa (λW=>by have:=pd.out W;simp only[hnb]at this;exact this)
  by_cases i0:i=0
  ·subst i0;have hr:=aa (show St.bh f (5,t,0)=0 by unfold St.bh;simp[hnb]);clear hnb;go_enter Tryz.func148,Tryz.ntmps148;go_wp2_with (go_at_call 177;refine(bt.out _).mono ?_;rintro e w' ⟨rfl,rfl⟩);go_ret;exact⟨ba hr.out.symm,uZ⟩
  have z2:(i==0)=false:=by simpa using i0
  have z3:(i != 0)=true:=by simpa using i0
  have hr:=aa (show St.bh f (5,t,i)=1 by unfold St.bh;simp[i0]);clear hnb i0;go_enter Tryz.func148,Tryz.ntmps148;go_wp2_with (go_at_call 177;refine(bt.out _).mono ?_;rintro e w' ⟨rfl,rfl⟩);go_ret;exact⟨ba hr.out.symm,uZ⟩
 have z5:(k==5)=false:=by simpa using k5
 by_cases k2:k=2
 ·subst k2;clear k1 k5 z1 z5;cases hnb:St.aN t
  ·have hr:=aa (show St.bh f (2,t,i)=1 by unfold St.bh;simp[hnb]);have bt:Hid (∀W,Calls Tryz.prog 178 #[Yi ⟨t.toArray⟩] W λe w'=>e=Yp (Yk false)/\W=w'):=aa (λW=>by have:=tG.out W;simp only[hnb]at this;exact this);clear hnb;go_enter Tryz.func148,Tryz.ntmps148;go_wp2_with (go_at_call 178;refine(bt.out _).mono ?_;rintro e w' ⟨rfl,rfl⟩);go_ret;exact⟨ba hr.out.symm,uZ⟩
  have bt:Hid (∀W,Calls Tryz.prog 178 #[Yi ⟨t.toArray⟩] W λe w'=>e=Yp (Yk true)/\W=w'):=aa (λW=>by have:=tG.out W;simp only[hnb]at this;exact this)
  by_cases i1:i<1
  ·have hr:=aa (show St.bh f (2,t,i)=1 by unfold St.bh;simp[hnb];omega);clear hnb;go_enter Tryz.func148,Tryz.ntmps148;go_wp2_with (go_at_call 178;refine(bt.out _).mono ?_;rintro e w' ⟨rfl,rfl⟩);go_ret;exact⟨ba hr.out.symm,uZ⟩
  by_cases i9:999<i
  ·have hr:=aa (show St.bh f (2,t,i)=1 by unfold St.bh;simp[hnb];omega);clear hnb;go_enter Tryz.func148,Tryz.ntmps148;go_wp2_with (go_at_call 178;refine(bt.out _).mono ?_;rintro e w' ⟨rfl,rfl⟩);go_ret;exact⟨ba hr.out.symm,uZ⟩
  have HR:=aa (show St.bh f (2,t,i)=if f.any (St.bE (2,t,i))then 7 else 0 by
   unfold St.bh;simp only[hnb,show(1:Int)<=i by omega,show i<=999 by omega]
   simp)
  have HB:=nC;clear hnb;go_enter Tryz.func148,Tryz.ntmps148;go_wp2_with (go_at_call 178;refine(bt.out _).mono ?_;rintro e w' ⟨rfl,rfl⟩);go_loopw [80] (λn9 wr=>kC (w.alloc (.cells #[Yh Yn 2,Yi ⟨t.toArray⟩,Yh Yn i] 36)) f (2,t,i) n n9 wr) (λn9 _=>n+1-(intOf n9).toNat)
  case atStart=>exact⟨0,by omega,rfl,by simp,uZ⟩
  case round=>
   obtain⟨j,hj,rfl,hcl,hu⟩:=hrel;have jL:=aa hcl;have HU:=aa hu;have sZ:=aa (HB.out.trans hu);have sA:=HT.out;have b0:wr.cell? ⟨w.1.size,0,Yq⟩=Yr (Yh Yn 2):=(hu.cell (p:=⟨w.1.size,0,Yq⟩) (by simp)).trans (by simp);have b1:wr.cell? ⟨w.1.size,1,Yq⟩=Yr (Yi ⟨t.toArray⟩):=(hu.cell (p:=⟨w.1.size,1,Yq⟩) (by simp)).trans (by simp);have b2:wr.cell? ⟨w.1.size,2,Yq⟩=Yr (Yh Yn i):=(hu.cell (p:=⟨w.1.size,2,Yq⟩) (by simp)).trans (by simp);haveI:af w.1.size wr:=af.of (cx _ _ b0);clear hcl hu
   by_cases hlt:j<n
   ·have aI:j<f.length:=by rw[HN.out];exact hlt
    obtain⟨b,off,rfl,hb,hc⟩:=(H.out.ai sZ.out) (by omega);obtain⟨c0,c1,c2⟩:=hc j aI;have hst:=aa (uz jL.out aI);have hfo:=aa (rH (f:=f) (x:=(2,t,i)) aI);have iR:=aa (pA f j aI);generalize f[j]=y at c0 c1 c2 hst hfo iR;obtain⟨yk,yt,yi⟩:=y;simp only at c0 c1 c2;haveI:af b wr:=af.of hb;clear hc aI;go_wp2_with fail;refine(lL yk ⟨yt.toArray⟩ yi _).mono ?_;rintro e w3 ⟨rfl,hu3⟩;have bL:ac wr w3:=ac.trans (uZ) hu3;have d0:w3.cell? ⟨wr.1.size,0,Yq⟩=Yr (Yh Yn yk):=(hu3.cell (p:=⟨wr.1.size,0,Yq⟩) (by simp)).trans (by simp);have d1:w3.cell? ⟨wr.1.size,1,Yq⟩=Yr (Yi ⟨yt.toArray⟩):=(hu3.cell (p:=⟨wr.1.size,1,Yq⟩) (by simp)).trans (by simp);have d2:w3.cell? ⟨wr.1.size,2,Yq⟩=Yr (Yh Yn yi):=(hu3.cell (p:=⟨wr.1.size,2,Yq⟩) (by simp)).trans (by simp);have e0:w3.cell? ⟨w.1.size,0,Yq⟩=Yr (Yh Yn 2):=(bL.cell (af.lt inferInstance)).trans b0;have e1:w3.cell? ⟨w.1.size,1,Yq⟩=Yr (Yi ⟨t.toArray⟩):=(bL.cell (af.lt inferInstance)).trans b1;have e2:w3.cell? ⟨w.1.size,2,Yq⟩=Yr (Yh Yn i):=(bL.cell (af.lt inferInstance)).trans b2;haveI:af w.1.size w3:=af.of (cx _ _ e0);haveI:af wr.1.size w3:=af.of (cx _ _ d0);have a7:=aa (HU.out.trans bL);clear hu3 bL b0 b1 b2 c0 c1 c2 HU sZ;have mn:St.bE (2,t,i) (yk,yt,yi)=false->kC (w.alloc (.cells #[Yh Yn 2,Yi ⟨t.toArray⟩,Yh Yn i] 36)) f (2,t,i) n (Yh Yn ((j:Int)+1)) w3:=λh=>⟨j+1,by omega,congrArg (Yh Yn) (by omega),hst.out h,a7.out⟩
    have dM:=aa mn;clear mn;cases htk:St.aQ yk
    ·have mc:=aa (dM.out (by unfold St.bE;rw[htk];rfl));clear htk dM;go_wp2;exact⟨mc.out,by simp[intOf];omega⟩
    by_cases kh:yi=i
    ·subst kh;have v1:(yi==yi)=true:=beq_self_eq_true _;have v2:(yi != yi)=false:=by simp
     have hct:=aa (hfo.out (by unfold St.bE;simp[htk]));clear htk dM;go_wp2_with fail
     first|refine aP (by kernel_rfl) (by kernel_rfl) ?_|refine aS (by kernel_rfl) (by kernel_rfl) ?_
     repeat (go_big_quiet_step (first|(fail)))
     refine wpQuiet_nil ?_;rintro _ ⟨X,rfl⟩;go_wp2;go_ret;refine⟨ba ?_,nC.out.trans (a7.out.trans uZ)⟩;rw[HR.out,hct.out];rfl
    have v1:(yi==i)=false:=by simpa using kh
    have v2:(yi != i)=true:=by simpa using kh
    have mc:=aa (dM.out (by unfold St.bE;simp[kh]));clear htk dM kh;go_wp2;exact⟨mc.out,by simp[intOf];omega⟩
   have hjn:j=n:=by omega
   subst hjn;have hnone:=aa (wR jL.out HN.out);clear hlt b0 b1 b2;go_wp2;go_ret;refine⟨ba ?_,nC.out.trans HU.out⟩;rw[HR.out,hnone.out];rfl
 by_cases k4:k=4
 ·subst k4;clear k1 k5 z1 z5 k2;cases hnb:St.aN t
  ·have hr:=aa (show St.bh f (4,t,i)=1 by unfold St.bh;simp[hnb]);have bt:Hid (∀W,Calls Tryz.prog 178 #[Yi ⟨t.toArray⟩] W λe w'=>e=Yp (Yk false)/\W=w'):=aa (λW=>by have:=tG.out W;simp only[hnb]at this;exact this);clear hnb;go_enter Tryz.func148,Tryz.ntmps148;go_wp2_with (go_at_call 178;refine(bt.out _).mono ?_;rintro e w' ⟨rfl,rfl⟩);go_ret;exact⟨ba hr.out.symm,uZ⟩
  have bt:Hid (∀W,Calls Tryz.prog 178 #[Yi ⟨t.toArray⟩] W λe w'=>e=Yp (Yk true)/\W=w'):=aa (λW=>by have:=tG.out W;simp only[hnb]at this;exact this)
  by_cases i1:i<1
  ·have hr:=aa (show St.bh f (4,t,i)=1 by unfold St.bh;simp[hnb];omega);clear hnb;go_enter Tryz.func148,Tryz.ntmps148;go_wp2_with (go_at_call 178;refine(bt.out _).mono ?_;rintro e w' ⟨rfl,rfl⟩);go_ret;exact⟨ba hr.out.symm,uZ⟩
  by_cases i9:999<i
  ·have hr:=aa (show St.bh f (4,t,i)=1 by unfold St.bh;simp[hnb];omega);clear hnb;go_enter Tryz.func148,Tryz.ntmps148;go_wp2_with (go_at_call 178;refine(bt.out _).mono ?_;rintro e w' ⟨rfl,rfl⟩);go_ret;exact⟨ba hr.out.symm,uZ⟩
  have HR:=aa (show St.bh f (4,t,i)=if f.any (St.bE (4,t,i))then 7 else 0 by
   unfold St.bh;simp only[hnb,show(1:Int)<=i by omega,show i<=999 by omega]
   simp)
  have HB:=nC;clear hnb;go_enter Tryz.func148,Tryz.ntmps148;go_wp2_with (go_at_call 178;refine(bt.out _).mono ?_;rintro e w' ⟨rfl,rfl⟩);go_loopw [80] (λn9 wr=>kC (w.alloc (.cells #[Yh Yn 4,Yi ⟨t.toArray⟩,Yh Yn i] 36)) f (4,t,i) n n9 wr) (λn9 _=>n+1-(intOf n9).toNat)
  case atStart=>exact⟨0,by omega,rfl,by simp,uZ⟩
  case round=>
   obtain⟨j,hj,rfl,hcl,hu⟩:=hrel;have jL:=aa hcl;have HU:=aa hu;have sZ:=aa (HB.out.trans hu);have sA:=HT.out;have b0:wr.cell? ⟨w.1.size,0,Yq⟩=Yr (Yh Yn 4):=(hu.cell (p:=⟨w.1.size,0,Yq⟩) (by simp)).trans (by simp);have b1:wr.cell? ⟨w.1.size,1,Yq⟩=Yr (Yi ⟨t.toArray⟩):=(hu.cell (p:=⟨w.1.size,1,Yq⟩) (by simp)).trans (by simp);have b2:wr.cell? ⟨w.1.size,2,Yq⟩=Yr (Yh Yn i):=(hu.cell (p:=⟨w.1.size,2,Yq⟩) (by simp)).trans (by simp);haveI:af w.1.size wr:=af.of (cx _ _ b0);clear hcl hu
   by_cases hlt:j<n
   ·have aI:j<f.length:=by rw[HN.out];exact hlt
    obtain⟨b,off,rfl,hb,hc⟩:=(H.out.ai sZ.out) (by omega);obtain⟨c0,c1,c2⟩:=hc j aI;have hst:=aa (uz jL.out aI);have hfo:=aa (rH (f:=f) (x:=(4,t,i)) aI);have iR:=aa (pA f j aI);generalize f[j]=y at c0 c1 c2 hst hfo iR;obtain⟨yk,yt,yi⟩:=y;simp only at c0 c1 c2;haveI:af b wr:=af.of hb;clear hc aI;go_wp2_with fail;refine(lL yk ⟨yt.toArray⟩ yi _).mono ?_;rintro e w3 ⟨rfl,hu3⟩;have bL:ac wr w3:=ac.trans (uZ) hu3;have d0:w3.cell? ⟨wr.1.size,0,Yq⟩=Yr (Yh Yn yk):=(hu3.cell (p:=⟨wr.1.size,0,Yq⟩) (by simp)).trans (by simp);have d1:w3.cell? ⟨wr.1.size,1,Yq⟩=Yr (Yi ⟨yt.toArray⟩):=(hu3.cell (p:=⟨wr.1.size,1,Yq⟩) (by simp)).trans (by simp);have d2:w3.cell? ⟨wr.1.size,2,Yq⟩=Yr (Yh Yn yi):=(hu3.cell (p:=⟨wr.1.size,2,Yq⟩) (by simp)).trans (by simp);have e0:w3.cell? ⟨w.1.size,0,Yq⟩=Yr (Yh Yn 4):=(bL.cell (af.lt inferInstance)).trans b0;have e1:w3.cell? ⟨w.1.size,1,Yq⟩=Yr (Yi ⟨t.toArray⟩):=(bL.cell (af.lt inferInstance)).trans b1;have e2:w3.cell? ⟨w.1.size,2,Yq⟩=Yr (Yh Yn i):=(bL.cell (af.lt inferInstance)).trans b2;haveI:af w.1.size w3:=af.of (cx _ _ e0);haveI:af wr.1.size w3:=af.of (cx _ _ d0);have a7:=aa (HU.out.trans bL);clear hu3 bL b0 b1 b2 c0 c1 c2 HU sZ;have mn:St.bE (4,t,i) (yk,yt,yi)=false->kC (w.alloc (.cells #[Yh Yn 4,Yi ⟨t.toArray⟩,Yh Yn i] 36)) f (4,t,i) n (Yh Yn ((j:Int)+1)) w3:=λh=>⟨j+1,by omega,congrArg (Yh Yn) (by omega),hst.out h,a7.out⟩
    have dM:=aa mn;clear mn;cases htk:St.aQ yk
    ·have mc:=aa (dM.out (by unfold St.bE;rw[htk];rfl));clear htk dM;go_wp2;exact⟨mc.out,by simp[intOf];omega⟩
    by_cases kh:yi=i
    ·subst kh;have v1:(yi==yi)=true:=beq_self_eq_true _;have v2:(yi != yi)=false:=by simp
     have hct:=aa (hfo.out (by unfold St.bE;simp[htk]));clear htk dM;go_wp2_with fail
     first|refine aP (by kernel_rfl) (by kernel_rfl) ?_|refine aS (by kernel_rfl) (by kernel_rfl) ?_
     repeat (go_big_quiet_step (first|(fail)))
     refine wpQuiet_nil ?_;rintro _ ⟨X,rfl⟩;go_wp2;go_ret;refine⟨ba ?_,nC.out.trans (a7.out.trans uZ)⟩;rw[HR.out,hct.out];rfl
    have v1:(yi==i)=false:=by simpa using kh
    have v2:(yi != i)=true:=by simpa using kh
    have mc:=aa (dM.out (by unfold St.bE;simp[kh]));clear htk dM kh;go_wp2;exact⟨mc.out,by simp[intOf];omega⟩
   have hjn:j=n:=by omega
   subst hjn;have hnone:=aa (wR jL.out HN.out);clear hlt b0 b1 b2;go_wp2;go_ret;refine⟨ba ?_,nC.out.trans HU.out⟩;rw[HR.out,hnone.out];rfl
 by_cases k3:k=3
 ·subst k3;clear k1 k5 z1 z5 k2 k4;cases hnb:St.aE t
  ·have hr:=aa (show St.bh f (3,t,i)=1 by unfold St.bh;simp[hnb]);have bt:Hid (∀W,Calls Tryz.prog 177 #[Yi ⟨t.toArray⟩] W λe w'=>e=Yp (Yk false)/\W=w'):=aa (λW=>by have:=pd.out W;simp only[hnb]at this;exact this);clear hnb;go_enter Tryz.func148,Tryz.ntmps148;go_wp2_with (go_at_call 177;refine(bt.out _).mono ?_;rintro e w' ⟨rfl,rfl⟩);go_ret;exact⟨ba hr.out.symm,uZ⟩
  have bt:Hid (∀W,Calls Tryz.prog 177 #[Yi ⟨t.toArray⟩] W λe w'=>e=Yp (Yk true)/\W=w'):=aa (λW=>by have:=pd.out W;simp only[hnb]at this;exact this)
  by_cases i1:i<1
  ·have hr:=aa (show St.bh f (3,t,i)=1 by unfold St.bh;simp[hnb];omega);clear hnb;go_enter Tryz.func148,Tryz.ntmps148;go_wp2_with (go_at_call 177;refine(bt.out _).mono ?_;rintro e w' ⟨rfl,rfl⟩);go_ret;exact⟨ba hr.out.symm,uZ⟩
  by_cases i9:999<i
  ·have hr:=aa (show St.bh f (3,t,i)=1 by unfold St.bh;simp[hnb];omega);clear hnb;go_enter Tryz.func148,Tryz.ntmps148;go_wp2_with (go_at_call 177;refine(bt.out _).mono ?_;rintro e w' ⟨rfl,rfl⟩);go_ret;exact⟨ba hr.out.symm,uZ⟩
  have HR:=aa (show St.bh f (3,t,i)=if f.any (St.bE (3,t,i))then 7 else 0 by
   unfold St.bh;simp only[hnb,show(1:Int)<=i by omega,show i<=999 by omega]
   simp)
  have HB:=nC;clear hnb;go_enter Tryz.func148,Tryz.ntmps148;go_wp2_with (go_at_call 177;refine(bt.out _).mono ?_;rintro e w' ⟨rfl,rfl⟩);go_loopw [80] (λn9 wr=>kC (w.alloc (.cells #[Yh Yn 3,Yi ⟨t.toArray⟩,Yh Yn i] 36)) f (3,t,i) n n9 wr) (λn9 _=>n+1-(intOf n9).toNat)
  case atStart=>exact⟨0,by omega,rfl,by simp,uZ⟩
  case round=>
   obtain⟨j,hj,rfl,hcl,hu⟩:=hrel;have jL:=aa hcl;have HU:=aa hu;have sZ:=aa (HB.out.trans hu);have sA:=HT.out;have b0:wr.cell? ⟨w.1.size,0,Yq⟩=Yr (Yh Yn 3):=(hu.cell (p:=⟨w.1.size,0,Yq⟩) (by simp)).trans (by simp);have b1:wr.cell? ⟨w.1.size,1,Yq⟩=Yr (Yi ⟨t.toArray⟩):=(hu.cell (p:=⟨w.1.size,1,Yq⟩) (by simp)).trans (by simp);have b2:wr.cell? ⟨w.1.size,2,Yq⟩=Yr (Yh Yn i):=(hu.cell (p:=⟨w.1.size,2,Yq⟩) (by simp)).trans (by simp);haveI:af w.1.size wr:=af.of (cx _ _ b0);clear hcl hu
   by_cases hlt:j<n
   ·have aI:j<f.length:=by rw[HN.out];exact hlt
    obtain⟨b,off,rfl,hb,hc⟩:=(H.out.ai sZ.out) (by omega);obtain⟨c0,c1,c2⟩:=hc j aI;have hst:=aa (uz jL.out aI);have hfo:=aa (rH (f:=f) (x:=(3,t,i)) aI);have iR:=aa (pA f j aI);generalize f[j]=y at c0 c1 c2 hst hfo iR;obtain⟨yk,yt,yi⟩:=y;simp only at c0 c1 c2;haveI:af b wr:=af.of hb;clear hc aI;go_wp2_with fail;refine(lL yk ⟨yt.toArray⟩ yi _).mono ?_;rintro e w3 ⟨rfl,hu3⟩;have bL:ac wr w3:=ac.trans (uZ) hu3;have d0:w3.cell? ⟨wr.1.size,0,Yq⟩=Yr (Yh Yn yk):=(hu3.cell (p:=⟨wr.1.size,0,Yq⟩) (by simp)).trans (by simp);have d1:w3.cell? ⟨wr.1.size,1,Yq⟩=Yr (Yi ⟨yt.toArray⟩):=(hu3.cell (p:=⟨wr.1.size,1,Yq⟩) (by simp)).trans (by simp);have d2:w3.cell? ⟨wr.1.size,2,Yq⟩=Yr (Yh Yn yi):=(hu3.cell (p:=⟨wr.1.size,2,Yq⟩) (by simp)).trans (by simp);have e0:w3.cell? ⟨w.1.size,0,Yq⟩=Yr (Yh Yn 3):=(bL.cell (af.lt inferInstance)).trans b0;have e1:w3.cell? ⟨w.1.size,1,Yq⟩=Yr (Yi ⟨t.toArray⟩):=(bL.cell (af.lt inferInstance)).trans b1;have e2:w3.cell? ⟨w.1.size,2,Yq⟩=Yr (Yh Yn i):=(bL.cell (af.lt inferInstance)).trans b2;haveI:af w.1.size w3:=af.of (cx _ _ e0);haveI:af wr.1.size w3:=af.of (cx _ _ d0);have a7:=aa (HU.out.trans bL);clear hu3 bL b0 b1 b2 c0 c1 c2 HU sZ;have mn:St.bE (3,t,i) (yk,yt,yi)=false->kC (w.alloc (.cells #[Yh Yn 3,Yi ⟨t.toArray⟩,Yh Yn i] 36)) f (3,t,i) n (Yh Yn ((j:Int)+1)) w3:=λh=>⟨j+1,by omega,congrArg (Yh Yn) (by omega),hst.out h,a7.out⟩
    have dM:=aa mn;clear mn;cases htk:St.aQ yk
    ·have mc:=aa (dM.out (by unfold St.bE;rw[htk];rfl));clear htk dM;go_wp2;exact⟨mc.out,by simp[intOf];omega⟩
    by_cases kh:yi=i
    ·subst kh;have v1:(yi==yi)=true:=beq_self_eq_true _;have v2:(yi != yi)=false:=by simp
     by_cases hyk:yk=2
     ·subst hyk;have JW:=aa (λW=>kL yt W (Nat.le_trans iR.out sA))
      by_cases be:St.nameOf yt=t
      ·have mc:=aa (dM.out (by unfold St.bE;simp[be]));have hb:((⟨(St.nameOf yt).toArray⟩:ByteArray).toList==(⟨t.toArray⟩:ByteArray).toList)=true:=by rw[be];exact beq_self_eq_true _
       have hb2:((⟨(St.nameOf yt).toArray⟩:ByteArray).toList != (⟨t.toArray⟩:ByteArray).toList)=false:=by rw[be];simp
       clear htk dM;go_wp2_with fail
       first|refine aP (by kernel_rfl) (by kernel_rfl) ?_|refine aS (by kernel_rfl) (by kernel_rfl) ?_
       repeat (go_big_quiet_step (first|((go_at_call 105;exact Calls.eE (JW.out _)))))
       refine wpQuiet_nil ?_;rintro _ ⟨X,rfl⟩;go_wp2;exact⟨kC.ai mc.out uZ,by simp[intOf];omega⟩
      have hct:=aa (hfo.out (by unfold St.bE;simp[htk,be]));have hb3:(St.nameOf yt==t)=false:=by simpa using be
      have hb4:(St.nameOf yt != t)=true:=by simpa using be
      have hb:((⟨(St.nameOf yt).toArray⟩:ByteArray).toList==(⟨t.toArray⟩:ByteArray).toList)=false:=by rw[Lib.toList_data,Lib.toList_data];simpa using be
      have hb2:((⟨(St.nameOf yt).toArray⟩:ByteArray).toList != (⟨t.toArray⟩:ByteArray).toList)=true:=by rw[Lib.toList_data,Lib.toList_data];simpa using be
      clear htk dM;go_wp2_with fail
      first|refine aP (by kernel_rfl) (by kernel_rfl) ?_|refine aS (by kernel_rfl) (by kernel_rfl) ?_
      repeat (go_big_quiet_step (first|((go_at_call 105;exact Calls.eE (JW.out _)))))
      refine wpQuiet_nil ?_;rintro _ ⟨X,rfl⟩;go_wp2;go_ret;refine⟨ba ?_,nC.out.trans (a7.out.trans uZ)⟩;rw[HR.out,hct.out];rfl
     have v3:(yk==2)=false:=by simpa using hyk
     have v4:(yk != 2)=true:=by simpa using hyk
     have hct:=aa (hfo.out (by unfold St.bE;simp[htk,hyk]));clear htk dM hyk;go_wp2_with fail
     first|refine aP (by kernel_rfl) (by kernel_rfl) ?_|refine aS (by kernel_rfl) (by kernel_rfl) ?_
     repeat (go_big_quiet_step (first|(fail)))
     refine wpQuiet_nil ?_;rintro _ ⟨X,rfl⟩;go_wp2;go_ret;refine⟨ba ?_,nC.out.trans (a7.out.trans uZ)⟩;rw[HR.out,hct.out];rfl
    have v1:(yi==i)=false:=by simpa using kh
    have v2:(yi != i)=true:=by simpa using kh
    have mc:=aa (dM.out (by unfold St.bE;simp[kh]));clear htk dM kh;go_wp2;exact⟨mc.out,by simp[intOf];omega⟩
   have hjn:j=n:=by omega
   subst hjn;have hnone:=aa (wR jL.out HN.out);clear hlt b0 b1 b2;go_wp2;go_ret;refine⟨ba ?_,nC.out.trans HU.out⟩;rw[HR.out,hnone.out];rfl
 have z2:(k==2)=false:=by simpa using k2
 have z4:(k==4)=false:=by simpa using k4
 have z3:(k==3)=false:=by simpa using k3
 have hr:=aa (show St.bh f (k,t,i)=1 by unfold St.bh;simp[k1,k2,k3,k4,k5]);clear k1 k2 k3 k4 k5;go_enter Tryz.func148,Tryz.ntmps148;go_wp2;go_ret;exact⟨ba hr.out.symm,uZ⟩
theorem su(b r:List St.It)(x:St.It)(h:St.bh b x=0):St.dc b (x :: r)=St.dc (b++[x]) r:=by rw[St.dc,if_neg (by simp[h])]
theorem sw(b r:List St.It)(x:St.It)(h:St.bh b x≠0):St.dc b (x :: r)=St.bh b x:=by rw[St.dc,if_pos h]
def NJ(w:Ys)(f:List St.It)(n:Nat)(pz:Value)(wr:Ys):Prop:=∃j:Nat,j<=n/\pz=Yh Yn j/\St.dc [] f=St.dc (f.take j) (f.drop j)/\ac w wr
theorem rV{w:Ys}{A:Option Addr}{f:List St.It}(h:aH w A f)(j:Nat):aH w A (f.take j):=by
 intro h0;have h1:f.length > 0:=by simp at h0;omega
 obtain⟨b,off,rfl,hb,hc⟩:=h h1;refine⟨b,off,rfl,hb,λm hm=>?_⟩;have hm2:m<f.length:=by simp at hm;omega
 have:=hc m hm2
 simpa using this
theorem Il(A:Option Addr)(n c:Nat)(f:List St.It)(w:Ys)(hn:f.length=n)(hnc:n<=c)(dG:c<=9223372036854775807)(hA:A=Yq->c=0)(h:aH w A f)(hl:n<=1000000000000)(ht:aV f<=4611686018427387904) :
  Calls Tryz.prog 107 #[.slice A n c] w λe w'=>e=Yp (Yh Yn (St.bN f))/\ac w w':=by
 have H:=aa h;have HN:=aa hn;have HT:=aa ht;have hle:=aa (la A n c f w hn h hl ht);have hll:=gM f;clear h hn
 by_cases q1:512<n
 ·have z:(512:Int)<(n:Int):=by omega
  have hr:=aa (show St.bN f=3 by unfold St.bN;rw[if_pos (.inl (by rw[HN.out];exact q1))]);clear ht;go_enter Tryz.func107,Tryz.ntmps107;go_wp2;go_ret;exact⟨ba hr.out.symm,uZ⟩
 have z:¬(512:Int)<(n:Int):=by omega
 by_cases q2:1024<St.aA f
 ·have z2:(1024:Int)<(St.aA f:Nat):=by omega
  have hr:=aa (show St.bN f=3 by unfold St.bN;rw[if_pos (.inr q2)]);clear ht;go_enter Tryz.func107,Tryz.ntmps107;go_wp2_with (go_at_call 29;refine hle.out.mono ?_;rintro e w' ⟨rfl,rfl⟩);go_ret;exact⟨ba hr.out.symm,uZ⟩
 have z2:¬(1024:Int)<(St.aA f:Nat):=by omega
 have hr:=aa (show St.bN f=St.dc [] f by unfold St.bN;rw[if_neg (by rw[HN.out];omega)]);clear ht hll;go_enter Tryz.func107,Tryz.ntmps107;go_wp2_with (go_at_call 29;refine hle.out.mono ?_;rintro e w' ⟨rfl,rfl⟩);go_loopw [15] (λpz wr=>NJ w f n pz wr) (λpz _=>n+1-(intOf pz).toNat)
 case atStart=>exact⟨0,by omega,rfl,by simp,ac.refl _⟩
 case round=>
  obtain⟨j,hj,rfl,hv,hu⟩:=hrel;have HV:=aa hv;have HU:=aa hu;clear hv hu
  by_cases hlt:j<n
  ·have aI:j<f.length:=by rw[HN.out];exact hlt
   obtain⟨b,off,rfl,hb,hc⟩:=(H.out.ai HU.out) (by omega);obtain⟨c0,c1,c2⟩:=hc j aI;have hdr:f.drop j=f[j] :: f.drop (j+1):=List.drop_eq_getElem_cons aI;have htk:f.take j++[f[j]]=f.take (j+1):=by rw[List.take_add_one,List.getElem?_eq_getElem aI];rfl
   have hv1:=λhc=>(HV.out.trans (by rw[hdr])).trans (sw (f.take j) (f.drop (j+1)) f[j] hc)
   have hv2:=λhc=>((HV.out.trans (by rw[hdr])).trans (su (f.take j) (f.drop (j+1)) f[j] hc)).trans (by rw[htk])
   have iR:=pA f j aI;have jy:=λ(W:Ys) (hW:ac wr W)=>Ic (Yr ⟨b,off,Yq⟩) j c (f.take j) f[j].1 f[j].2.1 f[j].2.2 W (by simp;omega) (by omega) dG (rV ((H.out.ai HU.out).ai hW) j) (by omega) (Nat.le_trans (fK f j) HT.out) (by have:=HT.out;omega)
   generalize f[j]=y at c0 c1 c2 hv1 hv2 iR jy;obtain⟨yk,yt,yi⟩:=y;simp only at c0 c1 c2 jy;generalize St.bh (f.take j) (yk,yt,yi)=ec at hv1 hv2 jy;have pL:=aa hv1;have Nz:=aa hv2;have Vt:=aa jy;haveI:af b wr:=af.of hb;have hjn:¬(j=n):=by omega
   clear hc hdr htk hv1 hv2 jy aI iR HV;go_wp2_with fail
   first|refine aP (by kernel_rfl) (by kernel_rfl) ?_|refine aS (by kernel_rfl) (by kernel_rfl) ?_
   repeat (go_big_quiet_step (first|((go_at_call 148;exact Calls.eE (Vt.out _ ⟨_,rfl⟩)))))
   refine wpQuiet_nil ?_;rintro _ ⟨X,rfl⟩
   by_cases fb:ec=0
   ·subst fb;go_wp2;exact⟨⟨j+1,by omega,congrArg (Yh Yn) (by omega),Nz.out rfl,HU.out.trans uZ⟩,by simp[intOf];omega⟩
   have z3:(ec==0)=false:=by simpa using fb
   have z4:(ec != 0)=true:=by simpa using fb
   have hf:=aa (pL.out fb);clear fb;go_wp2;go_ret;refine⟨ba ?_,HU.out.trans uZ⟩;rw[hr.out,hf.out]
  have hjn:j=n:=by omega
  subst hjn;have hf:=aa (show St.dc [] f=0 by rw[HV.out,List.drop_of_length_le (by rw[HN.out];omega)];rfl);clear hlt;go_wp2;go_ret;exact⟨ba (by rw[hr.out,hf.out]),HU.out⟩
