/- The contracts of the reference's IsContent, Check and Validate: what they give is. -/
import Derived.Test.YthoemdibbldndaaGreatDoorGB
set_option linter.all false
set_option maxHeartbeats 0
set_option maxRecDepth 20000
open Go.Value renaming int->UM,string->UN,bool->UP
open Go.IntKind renaming i64->US
open Go.Ending renaming returned->UU
open Option renaming none->UW,some->UX
open Go renaming World->UY
namespace Go.Proofs.YthoemdibbldndaaGreatDoor
open Go.RowKit
theorem kc(t:List UInt8)(w:UY)(hs:t.length<=4611686018427387904):Calls Tryz.prog 105 #[UN ⟨t.toArray⟩] w λe w'=>e=UU (UN ⟨(St.nameOf t).toArray⟩)/\ac w w':=by
 refine(yS ⟨t.toArray⟩ w (by show t.toArray.size<=_;simpa using hs)).mono ?_;rintro e w' ⟨u,rfl,hu,rfl⟩;refine⟨?_,ac.refl _⟩;rw[<-be u,hu]
def KX(s:ByteArray)(i:Value):Prop:=∃k:Nat,i=UM US k/\k<=s.size/\s.1.1.all St.fC=(s.1.1.drop k).all St.fC
theorem vm{s:List UInt8}(h:s.all St.fC=false):St.aI s=false:=by unfold St.aI;simp[h]
theorem lU(s:ByteArray)(w:UY)(hs:s.size<=4611686018427387904):Calls Tryz.prog 178 #[UN s] w λe w'=>e=UU (UP (St.aI s.1.1))/\w=w':=by
 have HLEN:=aa (St.aC s)
 by_cases h64:64<s.size
 ·have z:(64:Int)<s.size:=by omega
  have hr:=aa (show St.aI s.1.1=false by unfold St.aI;rw[HLEN.out,decide_eq_false (by omega)];rfl);go_enter Tryz.func178,Tryz.ntmps178;go_wp2;go_ret;exact⟨aD hr.out.symm,rfl⟩
 have z:¬(64:Int)<s.size:=by omega
 go_enter Tryz.func178,Tryz.ntmps178;go_wp2;go_loopw [3] (λi wr=>KX s i/\w=wr) (λi _=>s.size+1-(intOf i).toNat)
 case atStart=>exact⟨⟨0,rfl,by omega,rfl⟩,rfl⟩
 case round=>
  obtain⟨⟨k,rfl,hk,hl⟩,rfl⟩:=hrel;have HL:=aa hl;clear hl
  by_cases hlt:k<s.size
  ·have ax:=St.drop_at s k hlt;have z1:(k:Int)<s.size:=by omega
   cases hcc:St.fC s[k]
   ·have hr:=aa (vm (s:=s.1.1) (by rw[HL.out,ax];simp[hcc]));have pK:=of_decide_eq_false hcc;clear ax hcc
    by_cases q1:s[k].toNat<32
    ·have p1:(s[k].toNat:Int)<32:=by omega
     go_wp2;go_ret;exact⟨aD hr.out.symm,rfl⟩
    have p1:¬(s[k].toNat:Int)<32:=by omega
    by_cases q2:126<s[k].toNat
    ·have p2:(126:Int)<(s[k].toNat:Int):=by omega
     go_wp2;go_ret;exact⟨aD hr.out.symm,rfl⟩
    have p2:¬(126:Int)<(s[k].toNat:Int):=by omega
    rcases(show s[k].toNat=60\/s[k].toNat=62\/s[k].toNat=123\/s[k].toNat=125 by omega)with q|q|q|q
    ·have p3:((s[k].toNat:Int)==60)=true:=by simp;omega
     go_wp2;go_ret;exact⟨aD hr.out.symm,rfl⟩
    ·have p3:((s[k].toNat:Int)==60)=false:=by simp;omega
     have p4:((s[k].toNat:Int)==62)=true:=by simp;omega
     go_wp2;go_ret;exact⟨aD hr.out.symm,rfl⟩
    ·have p3:((s[k].toNat:Int)==60)=false:=by simp;omega
     have p4:((s[k].toNat:Int)==62)=false:=by simp;omega
     have p5:((s[k].toNat:Int)==123)=true:=by simp;omega
     go_wp2;go_ret;exact⟨aD hr.out.symm,rfl⟩
    have p3:((s[k].toNat:Int)==60)=false:=by simp;omega
    have p4:((s[k].toNat:Int)==62)=false:=by simp;omega
    have p5:((s[k].toNat:Int)==123)=false:=by simp;omega
    have p6:((s[k].toNat:Int)==125)=true:=by simp;omega
    go_wp2;go_ret;exact⟨aD hr.out.symm,rfl⟩
   have hl2:=aa (show s.1.1.all St.fC=(s.1.1.drop (k+1)).all St.fC by rw[HL.out,ax];simp[hcc]);have pK:=of_decide_eq_true hcc;have p1:¬(s[k].toNat:Int)<32:=by omega
   have p2:¬(126:Int)<(s[k].toNat:Int):=by omega
   have p3:((s[k].toNat:Int)==60)=false:=by simp;omega
   have p4:((s[k].toNat:Int)==62)=false:=by simp;omega
   have p5:((s[k].toNat:Int)==123)=false:=by simp;omega
   have p6:((s[k].toNat:Int)==125)=false:=by simp;omega
   clear ax hcc pK;go_wp2;exact⟨⟨⟨k+1,congrArg (UM US) (by omega),by omega,hl2.out⟩,by trivial⟩,by simp[intOf];omega⟩
  have yn:k=s.size:=by omega
  subst yn;have hall:s.1.1.all St.fC=true:=by rw[HL.out,List.drop_of_length_le (by simp)];rfl
  have hr:St.aI s.1.1=(St.aB (St.nameOf s.1.1)&&((decide ((St.nameOf s.1.1).length=s.size) || decide ((St.nameOf s.1.1).length+1<s.size))&&(s.1.1.getLast? != UX 47))):=by
   unfold St.aI;rw[HLEN.out,decide_eq_true (by omega),hall];rfl
  obtain⟨nm,hnmd⟩:∃nm,St.nameOf s.1.1=nm:=⟨_,rfl⟩;have ou:nm.length<=s.size:=by rw[<-hnmd,<-HLEN.out];exact(List.takeWhile_prefix _).length_le
  rw[hnmd]at hr;have hnc:=yS s w hs;rw[hnmd]at hnc;have HR:=aa hr;have Qj:=aa hnc;clear hr hnc hall hlt hk hnmd;go_wp2_with fail;refine Qj.out.mono ?_;rintro e w' ⟨t,rfl,ht,rfl⟩;have hts:t.size=nm.length:=by rw[<-ht,St.aC]
  have hin:=mF t w (by omega);rw[ht]at hin;have oQ:=aa hin;clear hin ht Qj;cases hb:St.aB nm
  ·rw[hb]at oQ HR;clear hb;go_wp2_with fail;refine oQ.out.mono ?_;rintro e w' ⟨rfl,rfl⟩;go_wp2;go_ret;exact⟨aD (by rw[HR.out];rfl),rfl⟩
  rw[hb]at oQ HR;have hn0:nm≠[]:=by intro e;subst e;cases hb
  have iS:0<nm.length:=List.length_pos_iff.2 hn0;obtain⟨m,hm⟩:∃m,s.size=m+1:=⟨s.size-1,by omega⟩;have fj:m<s.size:=by omega
  have hlast:s.1.1.getLast?=UX s[m]:=by
   rw[List.getLast?_eq_getElem?,HLEN.out,show s.size-1=m by omega];exact List.getElem?_eq_getElem (by rw[HLEN.out];exact fj)
  rw[hlast]at HR;have z3:(s.size:Int)-1=(m:Int):=by omega
  have z4:(m:Int)<s.size:=by omega
  have Ob:(UX s[m] != UX 47)=!(((s[m].toNat:Int)==47)):=by
   by_cases h:s[m].toNat=47
   ·have:s[m]=47:=by apply UInt8.toNat_inj.1;simpa using h
    rw[this];rfl
   have h2:s[m]≠47:=λe=>h (by rw[e];rfl)
   have h3:((s[m].toNat:Int)==47)=false:=by simp;omega
   rw[h3];simp[h2]
  rw[Ob]at HR;clear hb hn0 hlast Ob
  by_cases q1:nm.length=s.size
  ·have p1:((t.size:Int)==(s.size:Int))=true:=by simp;omega
   rw[decide_eq_true q1]at HR
   by_cases q3:s[m].toNat=47
   ·have p3:((s[m].toNat:Int)==47)=true:=by simp;omega
    have p4:((s[m].toNat:Int) != 47)=false:=by simp;omega
    rw[p3]at HR;go_wp2_with fail;refine oQ.out.mono ?_;rintro e w' ⟨rfl,rfl⟩;go_wp2;go_ret;exact⟨aD (by rw[HR.out];rfl),rfl⟩
   have p3:((s[m].toNat:Int)==47)=false:=by simp;omega
   have p4:((s[m].toNat:Int) != 47)=true:=by simp;omega
   rw[p3]at HR;go_wp2_with fail;refine oQ.out.mono ?_;rintro e w' ⟨rfl,rfl⟩;go_wp2;go_ret;exact⟨aD (by rw[HR.out];rfl),rfl⟩
  have p1:((t.size:Int)==(s.size:Int))=false:=by simp;omega
  rw[decide_eq_false q1]at HR
  by_cases q2:nm.length+1<s.size
  ·have p2:(t.size:Int)+1<s.size:=by omega
   rw[decide_eq_true q2]at HR
   by_cases q3:s[m].toNat=47
   ·have p3:((s[m].toNat:Int)==47)=true:=by simp;omega
    have p4:((s[m].toNat:Int) != 47)=false:=by simp;omega
    rw[p3]at HR;go_wp2_with fail;refine oQ.out.mono ?_;rintro e w' ⟨rfl,rfl⟩;go_wp2;go_ret;exact⟨aD (by rw[HR.out];rfl),rfl⟩
   have p3:((s[m].toNat:Int)==47)=false:=by simp;omega
   have p4:((s[m].toNat:Int) != 47)=true:=by simp;omega
   rw[p3]at HR;go_wp2_with fail;refine oQ.out.mono ?_;rintro e w' ⟨rfl,rfl⟩;go_wp2;go_ret;exact⟨aD (by rw[HR.out];rfl),rfl⟩
  have p2:¬(t.size:Int)+1<s.size:=by omega
  rw[decide_eq_false q2]at HR;go_wp2_with fail;refine oQ.out.mono ?_;rintro e w' ⟨rfl,rfl⟩;go_wp2;go_ret;exact⟨aD (by rw[HR.out];rfl),rfl⟩
def j3(W:UY)(f:List St.It)(x:St.It)(n:Nat)(nB:Value)(wr:UY):Prop:=∃j:Nat,j<=n/\nB=UM US j/\(∀y∈f.take j,St.bw x y=false)/\ac W wr
theorem j3.ai{W:UY}{f:List St.It}{x:St.It}{n:Nat}{nB:Value}{wr w':UY}(h:j3 W f x n nB wr)(u:ac wr w'):j3 W f x n nB w':=by
 obtain⟨j,h1,h2,h3,h4⟩:=h;exact⟨j,h1,h2,h3,h4.trans u⟩
theorem tm{f:List St.It}{x:St.It}{j:Nat}(h:∀y∈f.take j,St.bw x y=false)(hj:j<f.length)(hc:St.bw x f[j]=false):∀y∈f.take (j+1),St.bw x y=false:=by
 intro y hy;rw[List.take_add_one,List.getElem?_eq_getElem hj]at hy;rcases List.mem_append.1 hy with hy|hy
 ·exact h y hy
 simp at hy;subst hy;exact hc
theorem qG{f:List St.It}{x:St.It}{j:Nat}(hj:j<f.length)(hc:St.bw x f[j]=true):f.any (St.bw x)=true:=List.any_eq_true.2 ⟨f[j],List.getElem_mem hj,hc⟩
theorem vk{f:List St.It}{x:St.It}{n:Nat}(h:∀y∈f.take n,St.bw x y=false)(hn:f.length=n):f.any (St.bw x)=false:=by
 rw[List.take_of_length_le (by omega)]at h;refine Bool.eq_false_iff.2 λe=>?_
 obtain⟨y,hy,hc⟩:=List.any_eq_true.1 e;rw[h y hy]at hc;cases hc
theorem oL(f:List St.It)(j:Nat)(h:j<f.length):f[j].2.1.length<=bc f:=by
 have:=fS f (j+1)
 rw[j1 f j h]at this;omega
theorem FF(A:Option Addr)(n c:Nat)(f:List St.It)(k:Int)(t:List UInt8)(i:Int)(w:UY)(hn:f.length=n)(hnc:n<=c)(dz:c<=9223372036854775807)(h:aO w A f)(hl:n<=1000000000000)(ht:bc f<=4611686018427387904)(htl:t.length<=4611686018427387904) :
  Calls Tryz.prog 148 #[.slice A n c,.agg #[UM US k,UN ⟨t.toArray⟩,UM US i]] w λe w'=>e=UU (UM US (St.bf f (k,t,i)))/\ac w w':=by
 have H:=aa h;have HN:=aa hn;have HT:=aa ht;have mJ:=aa ((ac.refl w).alloc (.cells #[UM US k,UN ⟨t.toArray⟩,UM US i] 36));have vJ:(⟨t.toArray⟩:ByteArray).size=t.length:=by show t.toArray.size=_;simp
 have ou:=aa (λW=>mF ⟨t.toArray⟩ W (by omega));have sr:=aa (λW=>lU ⟨t.toArray⟩ W (by omega));clear h hn ht
 by_cases k1:k=1
 ·subst k1
  by_cases t0:t=[]
  ·subst t0;have hr:=aa (show St.bf f (1,[],i)=1 by unfold St.bf;simp);go_enter Tryz.func148,Tryz.ntmps148;go_wp2;go_ret;exact⟨ba hr.out.symm,uZ⟩
  have hte:((⟨t.toArray⟩:ByteArray).toList==[])=false:=by rw[Lib.toList_data];simpa using t0
  have R0:t.isEmpty=false:=by simpa using t0
  by_cases i0:i=0
  ·subst i0
   by_cases n0:n=0
   ·subst n0;have hf:f=[]:=List.eq_nil_of_length_eq_zero HN.out;have hr:=aa (show St.bf f (1,t,0)=0 by unfold St.bf;simp[t0,hf]);clear t0 hf;go_enter Tryz.func148,Tryz.ntmps148;go_wp2;go_ret;exact⟨ba hr.out.symm,uZ⟩
   obtain⟨b,off,rfl,hb,hc⟩:=(H.out.ai mJ.out) (by rw[HN.out];omega);obtain⟨m,rfl⟩:∃m,n=m+1:=⟨n-1,by omega⟩;have hm:m<f.length:=by rw[HN.out];omega
   obtain⟨c0,_,_⟩:=hc m hm;have hlast:f.getLast?=UX f[m]:=by rw[List.getLast?_eq_getElem?,HN.out];simp[hm]
   have hr:St.bf f (1,t,0)=if f[m].1=1 then 1 else 0:=by unfold St.bf;simp[t0,hlast]
   generalize f[m]=y at c0 hr;obtain⟨yk,yt,yi⟩:=y;simp only at c0 hr;have HR:=aa hr;have AW:((m+1:Nat):Int)-1=(m:Int):=by omega
   haveI:af b (w.alloc (.cells #[UM US 1,UN ⟨t.toArray⟩,UM US 0] 36)):=af.of hb;have Un:b<w.1.size\/b=w.1.size:=by simp at hb;omega
   clear t0 hc hr hlast n0 hb
   by_cases hyk:yk=1
   ·subst hyk;go_enter Tryz.func148,Tryz.ntmps148;go_wp2;go_ret;exact⟨ba (by rw[HR.out];rfl),uZ⟩
   have R5:(yk==1)=false:=by simpa using hyk
   go_enter Tryz.func148,Tryz.ntmps148;go_wp2;go_ret;exact⟨ba (by rw[HR.out,if_neg hyk]),uZ⟩
  have z1:(i==0)=false:=by simpa using i0
  have z2:(i != 0)=true:=by simpa using i0
  have hr:=aa (show St.bf f (1,t,i)=1 by unfold St.bf;simp[i0]);clear t0 i0;go_enter Tryz.func148,Tryz.ntmps148;go_wp2;go_ret;exact⟨ba hr.out.symm,uZ⟩
 have z1:(k==1)=false:=by simpa using k1
 by_cases k5:k=5
 ·subst k5;clear k1 z1;cases hnb:St.aB t
  ·have hr:=aa (show St.bf f (5,t,i)=1 by unfold St.bf;simp[hnb]);have bl:Hid (∀W,Calls Tryz.prog 177 #[UN ⟨t.toArray⟩] W λe w'=>e=UU (UP false)/\W=w'):=aa (λW=>by have:=ou.out W;simp only[hnb]at this;exact this);clear hnb;go_enter Tryz.func148,Tryz.ntmps148;go_wp2_with (go_at_call 177;refine(bl.out _).mono ?_;rintro e w' ⟨rfl,rfl⟩);go_ret;exact⟨ba hr.out.symm,uZ⟩
  have bl:Hid (∀W,Calls Tryz.prog 177 #[UN ⟨t.toArray⟩] W λe w'=>e=UU (UP true)/\W=w'):=aa (λW=>by have:=ou.out W;simp only[hnb]at this;exact this)
  by_cases i0:i=0
  ·subst i0;have hr:=aa (show St.bf f (5,t,0)=0 by unfold St.bf;simp[hnb]);clear hnb;go_enter Tryz.func148,Tryz.ntmps148;go_wp2_with (go_at_call 177;refine(bl.out _).mono ?_;rintro e w' ⟨rfl,rfl⟩);go_ret;exact⟨ba hr.out.symm,uZ⟩
  have z2:(i==0)=false:=by simpa using i0
  have z3:(i != 0)=true:=by simpa using i0
  have hr:=aa (show St.bf f (5,t,i)=1 by unfold St.bf;simp[i0]);clear hnb i0;go_enter Tryz.func148,Tryz.ntmps148;go_wp2_with (go_at_call 177;refine(bl.out _).mono ?_;rintro e w' ⟨rfl,rfl⟩);go_ret;exact⟨ba hr.out.symm,uZ⟩
 have z5:(k==5)=false:=by simpa using k5
 by_cases k2:k=2
 ·subst k2;clear k1 k5 z1 z5;cases hnb:St.aI t
  ·have hr:=aa (show St.bf f (2,t,i)=1 by unfold St.bf;simp[hnb]);have bl:Hid (∀W,Calls Tryz.prog 178 #[UN ⟨t.toArray⟩] W λe w'=>e=UU (UP false)/\W=w'):=aa (λW=>by have:=sr.out W;simp only[hnb]at this;exact this);clear hnb;go_enter Tryz.func148,Tryz.ntmps148;go_wp2_with (go_at_call 178;refine(bl.out _).mono ?_;rintro e w' ⟨rfl,rfl⟩);go_ret;exact⟨ba hr.out.symm,uZ⟩
  have bl:Hid (∀W,Calls Tryz.prog 178 #[UN ⟨t.toArray⟩] W λe w'=>e=UU (UP true)/\W=w'):=aa (λW=>by have:=sr.out W;simp only[hnb]at this;exact this)
  by_cases i1:i<1
  ·have hr:=aa (show St.bf f (2,t,i)=1 by unfold St.bf;simp[hnb];omega);clear hnb;go_enter Tryz.func148,Tryz.ntmps148;go_wp2_with (go_at_call 178;refine(bl.out _).mono ?_;rintro e w' ⟨rfl,rfl⟩);go_ret;exact⟨ba hr.out.symm,uZ⟩
  by_cases i9:999<i
  ·have hr:=aa (show St.bf f (2,t,i)=1 by unfold St.bf;simp[hnb];omega);clear hnb;go_enter Tryz.func148,Tryz.ntmps148;go_wp2_with (go_at_call 178;refine(bl.out _).mono ?_;rintro e w' ⟨rfl,rfl⟩);go_ret;exact⟨ba hr.out.symm,uZ⟩
  have HR:=aa (show St.bf f (2,t,i)=if f.any (St.bw (2,t,i))then 7 else 0 by
   unfold St.bf;simp only[hnb,show(1:Int)<=i by omega,show i<=999 by omega]
   simp)
  have HB:=mJ;clear hnb;go_enter Tryz.func148,Tryz.ntmps148;go_wp2_with (go_at_call 178;refine(bl.out _).mono ?_;rintro e w' ⟨rfl,rfl⟩);go_loopw [80] (λnB wr=>j3 (w.alloc (.cells #[UM US 2,UN ⟨t.toArray⟩,UM US i] 36)) f (2,t,i) n nB wr) (λnB _=>n+1-(intOf nB).toNat)
  case atStart=>exact⟨0,by omega,rfl,by simp,uZ⟩
  case round=>
   obtain⟨j,hj,rfl,hcl,hu⟩:=hrel;have jt:=aa hcl;have HU:=aa hu;have rZ:=aa (HB.out.trans hu);have rH:=HT.out;have b0:wr.cell? ⟨w.1.size,0,UW⟩=UX (UM US 2):=(hu.cell (p:=⟨w.1.size,0,UW⟩) (by simp)).trans (by simp);have b1:wr.cell? ⟨w.1.size,1,UW⟩=UX (UN ⟨t.toArray⟩):=(hu.cell (p:=⟨w.1.size,1,UW⟩) (by simp)).trans (by simp);have b2:wr.cell? ⟨w.1.size,2,UW⟩=UX (UM US i):=(hu.cell (p:=⟨w.1.size,2,UW⟩) (by simp)).trans (by simp);haveI:af w.1.size wr:=af.of (cM _ _ b0);clear hcl hu
   by_cases hlt:j<n
   ·have aS:j<f.length:=by rw[HN.out];exact hlt
    obtain⟨b,off,rfl,hb,hc⟩:=(H.out.ai rZ.out) (by omega);obtain⟨c0,c1,c2⟩:=hc j aS;have hst:=aa (tm jt.out aS);have hfo:=aa (qG (f:=f) (x:=(2,t,i)) aS);have iD:=aa (oL f j aS);generalize f[j]=y at c0 c1 c2 hst hfo iD;obtain⟨yk,yt,yi⟩:=y;simp only at c0 c1 c2;haveI:af b wr:=af.of hb;clear hc aS;go_wp2_with fail;refine(pg yk ⟨yt.toArray⟩ yi _).mono ?_;rintro e w3 ⟨rfl,hu3⟩;have cE:ac wr w3:=ac.trans (uZ) hu3;have d0:w3.cell? ⟨wr.1.size,0,UW⟩=UX (UM US yk):=(hu3.cell (p:=⟨wr.1.size,0,UW⟩) (by simp)).trans (by simp);have d1:w3.cell? ⟨wr.1.size,1,UW⟩=UX (UN ⟨yt.toArray⟩):=(hu3.cell (p:=⟨wr.1.size,1,UW⟩) (by simp)).trans (by simp);have d2:w3.cell? ⟨wr.1.size,2,UW⟩=UX (UM US yi):=(hu3.cell (p:=⟨wr.1.size,2,UW⟩) (by simp)).trans (by simp);have e0:w3.cell? ⟨w.1.size,0,UW⟩=UX (UM US 2):=(cE.cell (af.lt inferInstance)).trans b0;have e1:w3.cell? ⟨w.1.size,1,UW⟩=UX (UN ⟨t.toArray⟩):=(cE.cell (af.lt inferInstance)).trans b1;have e2:w3.cell? ⟨w.1.size,2,UW⟩=UX (UM US i):=(cE.cell (af.lt inferInstance)).trans b2;haveI:af w.1.size w3:=af.of (cM _ _ e0);haveI:af wr.1.size w3:=af.of (cM _ _ d0);have bm:=aa (HU.out.trans cE);clear hu3 cE b0 b1 b2 c0 c1 c2 HU rZ;have lO:St.bw (2,t,i) (yk,yt,yi)=false->j3 (w.alloc (.cells #[UM US 2,UN ⟨t.toArray⟩,UM US i] 36)) f (2,t,i) n (UM US ((j:Int)+1)) w3:=λh=>⟨j+1,by omega,congrArg (UM US) (by omega),hst.out h,bm.out⟩
    have dJ:=aa lO;clear lO;cases htk:St.aJ yk
    ·have lH:=aa (dJ.out (by unfold St.bw;rw[htk];rfl));clear htk dJ;go_wp2;exact⟨lH.out,by simp[intOf];omega⟩
    by_cases jM:yi=i
    ·subst jM;have v1:(yi==yi)=true:=beq_self_eq_true _;have v2:(yi != yi)=false:=by simp
     have hct:=aa (hfo.out (by unfold St.bw;simp[htk]));clear htk dJ;go_wp2_with fail
     first|refine aM (by kernel_rfl) (by kernel_rfl) ?_|refine aQ (by kernel_rfl) (by kernel_rfl) ?_
     repeat (go_big_quiet_step (first|(fail)))
     refine wpQuiet_nil ?_;rintro _ ⟨X,rfl⟩;go_wp2;go_ret;refine⟨ba ?_,mJ.out.trans (bm.out.trans uZ)⟩;rw[HR.out,hct.out];rfl
    have v1:(yi==i)=false:=by simpa using jM
    have v2:(yi != i)=true:=by simpa using jM
    have lH:=aa (dJ.out (by unfold St.bw;simp[jM]));clear htk dJ jM;go_wp2;exact⟨lH.out,by simp[intOf];omega⟩
   have hjn:j=n:=by omega
   subst hjn;have hnone:=aa (vk jt.out HN.out);clear hlt b0 b1 b2;go_wp2;go_ret;refine⟨ba ?_,mJ.out.trans HU.out⟩;rw[HR.out,hnone.out];rfl
 by_cases k4:k=4
 ·subst k4;clear k1 k5 z1 z5 k2;cases hnb:St.aI t
  ·have hr:=aa (show St.bf f (4,t,i)=1 by unfold St.bf;simp[hnb]);have bl:Hid (∀W,Calls Tryz.prog 178 #[UN ⟨t.toArray⟩] W λe w'=>e=UU (UP false)/\W=w'):=aa (λW=>by have:=sr.out W;simp only[hnb]at this;exact this);clear hnb;go_enter Tryz.func148,Tryz.ntmps148;go_wp2_with (go_at_call 178;refine(bl.out _).mono ?_;rintro e w' ⟨rfl,rfl⟩);go_ret;exact⟨ba hr.out.symm,uZ⟩
  have bl:Hid (∀W,Calls Tryz.prog 178 #[UN ⟨t.toArray⟩] W λe w'=>e=UU (UP true)/\W=w'):=aa (λW=>by have:=sr.out W;simp only[hnb]at this;exact this)
  by_cases i1:i<1
  ·have hr:=aa (show St.bf f (4,t,i)=1 by unfold St.bf;simp[hnb];omega);clear hnb;go_enter Tryz.func148,Tryz.ntmps148;go_wp2_with (go_at_call 178;refine(bl.out _).mono ?_;rintro e w' ⟨rfl,rfl⟩);go_ret;exact⟨ba hr.out.symm,uZ⟩
  by_cases i9:999<i
  ·have hr:=aa (show St.bf f (4,t,i)=1 by unfold St.bf;simp[hnb];omega);clear hnb;go_enter Tryz.func148,Tryz.ntmps148;go_wp2_with (go_at_call 178;refine(bl.out _).mono ?_;rintro e w' ⟨rfl,rfl⟩);go_ret;exact⟨ba hr.out.symm,uZ⟩
  have HR:=aa (show St.bf f (4,t,i)=if f.any (St.bw (4,t,i))then 7 else 0 by
   unfold St.bf;simp only[hnb,show(1:Int)<=i by omega,show i<=999 by omega]
   simp)
  have HB:=mJ;clear hnb;go_enter Tryz.func148,Tryz.ntmps148;go_wp2_with (go_at_call 178;refine(bl.out _).mono ?_;rintro e w' ⟨rfl,rfl⟩);go_loopw [80] (λnB wr=>j3 (w.alloc (.cells #[UM US 4,UN ⟨t.toArray⟩,UM US i] 36)) f (4,t,i) n nB wr) (λnB _=>n+1-(intOf nB).toNat)
  case atStart=>exact⟨0,by omega,rfl,by simp,uZ⟩
  case round=>
   obtain⟨j,hj,rfl,hcl,hu⟩:=hrel;have jt:=aa hcl;have HU:=aa hu;have rZ:=aa (HB.out.trans hu);have rH:=HT.out;have b0:wr.cell? ⟨w.1.size,0,UW⟩=UX (UM US 4):=(hu.cell (p:=⟨w.1.size,0,UW⟩) (by simp)).trans (by simp);have b1:wr.cell? ⟨w.1.size,1,UW⟩=UX (UN ⟨t.toArray⟩):=(hu.cell (p:=⟨w.1.size,1,UW⟩) (by simp)).trans (by simp);have b2:wr.cell? ⟨w.1.size,2,UW⟩=UX (UM US i):=(hu.cell (p:=⟨w.1.size,2,UW⟩) (by simp)).trans (by simp);haveI:af w.1.size wr:=af.of (cM _ _ b0);clear hcl hu
   by_cases hlt:j<n
   ·have aS:j<f.length:=by rw[HN.out];exact hlt
    obtain⟨b,off,rfl,hb,hc⟩:=(H.out.ai rZ.out) (by omega);obtain⟨c0,c1,c2⟩:=hc j aS;have hst:=aa (tm jt.out aS);have hfo:=aa (qG (f:=f) (x:=(4,t,i)) aS);have iD:=aa (oL f j aS);generalize f[j]=y at c0 c1 c2 hst hfo iD;obtain⟨yk,yt,yi⟩:=y;simp only at c0 c1 c2;haveI:af b wr:=af.of hb;clear hc aS;go_wp2_with fail;refine(pg yk ⟨yt.toArray⟩ yi _).mono ?_;rintro e w3 ⟨rfl,hu3⟩;have cE:ac wr w3:=ac.trans (uZ) hu3;have d0:w3.cell? ⟨wr.1.size,0,UW⟩=UX (UM US yk):=(hu3.cell (p:=⟨wr.1.size,0,UW⟩) (by simp)).trans (by simp);have d1:w3.cell? ⟨wr.1.size,1,UW⟩=UX (UN ⟨yt.toArray⟩):=(hu3.cell (p:=⟨wr.1.size,1,UW⟩) (by simp)).trans (by simp);have d2:w3.cell? ⟨wr.1.size,2,UW⟩=UX (UM US yi):=(hu3.cell (p:=⟨wr.1.size,2,UW⟩) (by simp)).trans (by simp);have e0:w3.cell? ⟨w.1.size,0,UW⟩=UX (UM US 4):=(cE.cell (af.lt inferInstance)).trans b0;have e1:w3.cell? ⟨w.1.size,1,UW⟩=UX (UN ⟨t.toArray⟩):=(cE.cell (af.lt inferInstance)).trans b1;have e2:w3.cell? ⟨w.1.size,2,UW⟩=UX (UM US i):=(cE.cell (af.lt inferInstance)).trans b2;haveI:af w.1.size w3:=af.of (cM _ _ e0);haveI:af wr.1.size w3:=af.of (cM _ _ d0);have bm:=aa (HU.out.trans cE);clear hu3 cE b0 b1 b2 c0 c1 c2 HU rZ;have lO:St.bw (4,t,i) (yk,yt,yi)=false->j3 (w.alloc (.cells #[UM US 4,UN ⟨t.toArray⟩,UM US i] 36)) f (4,t,i) n (UM US ((j:Int)+1)) w3:=λh=>⟨j+1,by omega,congrArg (UM US) (by omega),hst.out h,bm.out⟩
    have dJ:=aa lO;clear lO;cases htk:St.aJ yk
    ·have lH:=aa (dJ.out (by unfold St.bw;rw[htk];rfl));clear htk dJ;go_wp2;exact⟨lH.out,by simp[intOf];omega⟩
    by_cases jM:yi=i
    ·subst jM;have v1:(yi==yi)=true:=beq_self_eq_true _;have v2:(yi != yi)=false:=by simp
     have hct:=aa (hfo.out (by unfold St.bw;simp[htk]));clear htk dJ;go_wp2_with fail
     first|refine aM (by kernel_rfl) (by kernel_rfl) ?_|refine aQ (by kernel_rfl) (by kernel_rfl) ?_
     repeat (go_big_quiet_step (first|(fail)))
     refine wpQuiet_nil ?_;rintro _ ⟨X,rfl⟩;go_wp2;go_ret;refine⟨ba ?_,mJ.out.trans (bm.out.trans uZ)⟩;rw[HR.out,hct.out];rfl
    have v1:(yi==i)=false:=by simpa using jM
    have v2:(yi != i)=true:=by simpa using jM
    have lH:=aa (dJ.out (by unfold St.bw;simp[jM]));clear htk dJ jM;go_wp2;exact⟨lH.out,by simp[intOf];omega⟩
   have hjn:j=n:=by omega
   subst hjn;have hnone:=aa (vk jt.out HN.out);clear hlt b0 b1 b2;go_wp2;go_ret;refine⟨ba ?_,mJ.out.trans HU.out⟩;rw[HR.out,hnone.out];rfl
 by_cases k3:k=3
 ·subst k3;clear k1 k5 z1 z5 k2 k4;cases hnb:St.aB t
  ·have hr:=aa (show St.bf f (3,t,i)=1 by unfold St.bf;simp[hnb]);have bl:Hid (∀W,Calls Tryz.prog 177 #[UN ⟨t.toArray⟩] W λe w'=>e=UU (UP false)/\W=w'):=aa (λW=>by have:=ou.out W;simp only[hnb]at this;exact this);clear hnb;go_enter Tryz.func148,Tryz.ntmps148;go_wp2_with (go_at_call 177;refine(bl.out _).mono ?_;rintro e w' ⟨rfl,rfl⟩);go_ret;exact⟨ba hr.out.symm,uZ⟩
  have bl:Hid (∀W,Calls Tryz.prog 177 #[UN ⟨t.toArray⟩] W λe w'=>e=UU (UP true)/\W=w'):=aa (λW=>by have:=ou.out W;simp only[hnb]at this;exact this)
  by_cases i1:i<1
  ·have hr:=aa (show St.bf f (3,t,i)=1 by unfold St.bf;simp[hnb];omega);clear hnb;go_enter Tryz.func148,Tryz.ntmps148;go_wp2_with (go_at_call 177;refine(bl.out _).mono ?_;rintro e w' ⟨rfl,rfl⟩);go_ret;exact⟨ba hr.out.symm,uZ⟩
  by_cases i9:999<i
  ·have hr:=aa (show St.bf f (3,t,i)=1 by unfold St.bf;simp[hnb];omega);clear hnb;go_enter Tryz.func148,Tryz.ntmps148;go_wp2_with (go_at_call 177;refine(bl.out _).mono ?_;rintro e w' ⟨rfl,rfl⟩);go_ret;exact⟨ba hr.out.symm,uZ⟩
  have HR:=aa (show St.bf f (3,t,i)=if f.any (St.bw (3,t,i))then 7 else 0 by
   unfold St.bf;simp only[hnb,show(1:Int)<=i by omega,show i<=999 by omega]
   simp)
  have HB:=mJ;clear hnb;go_enter Tryz.func148,Tryz.ntmps148;go_wp2_with (go_at_call 177;refine(bl.out _).mono ?_;rintro e w' ⟨rfl,rfl⟩);go_loopw [80] (λnB wr=>j3 (w.alloc (.cells #[UM US 3,UN ⟨t.toArray⟩,UM US i] 36)) f (3,t,i) n nB wr) (λnB _=>n+1-(intOf nB).toNat)
  case atStart=>exact⟨0,by omega,rfl,by simp,uZ⟩
  case round=>
   obtain⟨j,hj,rfl,hcl,hu⟩:=hrel;have jt:=aa hcl;have HU:=aa hu;have rZ:=aa (HB.out.trans hu);have rH:=HT.out;have b0:wr.cell? ⟨w.1.size,0,UW⟩=UX (UM US 3):=(hu.cell (p:=⟨w.1.size,0,UW⟩) (by simp)).trans (by simp);have b1:wr.cell? ⟨w.1.size,1,UW⟩=UX (UN ⟨t.toArray⟩):=(hu.cell (p:=⟨w.1.size,1,UW⟩) (by simp)).trans (by simp);have b2:wr.cell? ⟨w.1.size,2,UW⟩=UX (UM US i):=(hu.cell (p:=⟨w.1.size,2,UW⟩) (by simp)).trans (by simp);haveI:af w.1.size wr:=af.of (cM _ _ b0);clear hcl hu
   by_cases hlt:j<n
   ·have aS:j<f.length:=by rw[HN.out];exact hlt
    obtain⟨b,off,rfl,hb,hc⟩:=(H.out.ai rZ.out) (by omega);obtain⟨c0,c1,c2⟩:=hc j aS;have hst:=aa (tm jt.out aS);have hfo:=aa (qG (f:=f) (x:=(3,t,i)) aS);have iD:=aa (oL f j aS);generalize f[j]=y at c0 c1 c2 hst hfo iD;obtain⟨yk,yt,yi⟩:=y;simp only at c0 c1 c2;haveI:af b wr:=af.of hb;clear hc aS;go_wp2_with fail;refine(pg yk ⟨yt.toArray⟩ yi _).mono ?_;rintro e w3 ⟨rfl,hu3⟩;have cE:ac wr w3:=ac.trans (uZ) hu3;have d0:w3.cell? ⟨wr.1.size,0,UW⟩=UX (UM US yk):=(hu3.cell (p:=⟨wr.1.size,0,UW⟩) (by simp)).trans (by simp);have d1:w3.cell? ⟨wr.1.size,1,UW⟩=UX (UN ⟨yt.toArray⟩):=(hu3.cell (p:=⟨wr.1.size,1,UW⟩) (by simp)).trans (by simp);have d2:w3.cell? ⟨wr.1.size,2,UW⟩=UX (UM US yi):=(hu3.cell (p:=⟨wr.1.size,2,UW⟩) (by simp)).trans (by simp);have e0:w3.cell? ⟨w.1.size,0,UW⟩=UX (UM US 3):=(cE.cell (af.lt inferInstance)).trans b0;have e1:w3.cell? ⟨w.1.size,1,UW⟩=UX (UN ⟨t.toArray⟩):=(cE.cell (af.lt inferInstance)).trans b1;have e2:w3.cell? ⟨w.1.size,2,UW⟩=UX (UM US i):=(cE.cell (af.lt inferInstance)).trans b2;haveI:af w.1.size w3:=af.of (cM _ _ e0);haveI:af wr.1.size w3:=af.of (cM _ _ d0);have bm:=aa (HU.out.trans cE);clear hu3 cE b0 b1 b2 c0 c1 c2 HU rZ;have lO:St.bw (3,t,i) (yk,yt,yi)=false->j3 (w.alloc (.cells #[UM US 3,UN ⟨t.toArray⟩,UM US i] 36)) f (3,t,i) n (UM US ((j:Int)+1)) w3:=λh=>⟨j+1,by omega,congrArg (UM US) (by omega),hst.out h,bm.out⟩
    have dJ:=aa lO;clear lO;cases htk:St.aJ yk
    ·have lH:=aa (dJ.out (by unfold St.bw;rw[htk];rfl));clear htk dJ;go_wp2;exact⟨lH.out,by simp[intOf];omega⟩
    by_cases jM:yi=i
    ·subst jM;have v1:(yi==yi)=true:=beq_self_eq_true _;have v2:(yi != yi)=false:=by simp
     by_cases hyk:yk=2
     ·subst hyk;have Ht:=aa (λW=>kc yt W (Nat.le_trans iD.out rH))
      by_cases a8:St.nameOf yt=t
      ·have lH:=aa (dJ.out (by unfold St.bw;simp[a8]));have hb:((⟨(St.nameOf yt).toArray⟩:ByteArray).toList==(⟨t.toArray⟩:ByteArray).toList)=true:=by rw[a8];exact beq_self_eq_true _
       have hb2:((⟨(St.nameOf yt).toArray⟩:ByteArray).toList != (⟨t.toArray⟩:ByteArray).toList)=false:=by rw[a8];simp
       clear htk dJ;go_wp2_with fail
       first|refine aM (by kernel_rfl) (by kernel_rfl) ?_|refine aQ (by kernel_rfl) (by kernel_rfl) ?_
       repeat (go_big_quiet_step (first|((go_at_call 105;exact Calls.dM (Ht.out _)))))
       refine wpQuiet_nil ?_;rintro _ ⟨X,rfl⟩;go_wp2;exact⟨j3.ai lH.out uZ,by simp[intOf];omega⟩
      have hct:=aa (hfo.out (by unfold St.bw;simp[htk,a8]));have hb3:(St.nameOf yt==t)=false:=by simpa using a8
      have hb4:(St.nameOf yt != t)=true:=by simpa using a8
      have hb:((⟨(St.nameOf yt).toArray⟩:ByteArray).toList==(⟨t.toArray⟩:ByteArray).toList)=false:=by rw[Lib.toList_data,Lib.toList_data];simpa using a8
      have hb2:((⟨(St.nameOf yt).toArray⟩:ByteArray).toList != (⟨t.toArray⟩:ByteArray).toList)=true:=by rw[Lib.toList_data,Lib.toList_data];simpa using a8
      clear htk dJ;go_wp2_with fail
      first|refine aM (by kernel_rfl) (by kernel_rfl) ?_|refine aQ (by kernel_rfl) (by kernel_rfl) ?_
      repeat (go_big_quiet_step (first|((go_at_call 105;exact Calls.dM (Ht.out _)))))
      refine wpQuiet_nil ?_;rintro _ ⟨X,rfl⟩;go_wp2;go_ret;refine⟨ba ?_,mJ.out.trans (bm.out.trans uZ)⟩;rw[HR.out,hct.out];rfl
     have v3:(yk==2)=false:=by simpa using hyk
     have v4:(yk != 2)=true:=by simpa using hyk
     have hct:=aa (hfo.out (by unfold St.bw;simp[htk,hyk]));clear htk dJ hyk;go_wp2_with fail
     first|refine aM (by kernel_rfl) (by kernel_rfl) ?_|refine aQ (by kernel_rfl) (by kernel_rfl) ?_
     repeat (go_big_quiet_step (first|(fail)))
     refine wpQuiet_nil ?_;rintro _ ⟨X,rfl⟩;go_wp2;go_ret;refine⟨ba ?_,mJ.out.trans (bm.out.trans uZ)⟩;rw[HR.out,hct.out];rfl
    have v1:(yi==i)=false:=by simpa using jM
    have v2:(yi != i)=true:=by simpa using jM
    have lH:=aa (dJ.out (by unfold St.bw;simp[jM]));clear htk dJ jM;go_wp2;exact⟨lH.out,by simp[intOf];omega⟩
   have hjn:j=n:=by omega
   subst hjn;have hnone:=aa (vk jt.out HN.out);clear hlt b0 b1 b2;go_wp2;go_ret;refine⟨ba ?_,mJ.out.trans HU.out⟩;rw[HR.out,hnone.out];rfl
 have z2:(k==2)=false:=by simpa using k2
 have z4:(k==4)=false:=by simpa using k4
 have z3:(k==3)=false:=by simpa using k3
 have hr:=aa (show St.bf f (k,t,i)=1 by unfold St.bf;simp[k1,k2,k3,k4,k5]);clear k1 k2 k3 k4 k5;go_enter Tryz.func148,Tryz.ntmps148;go_wp2;go_ret;exact⟨ba hr.out.symm,uZ⟩
theorem rA(b r:List St.It)(x:St.It)(h:St.bf b x=0):St.cI b (x :: r)=St.cI (b++[x]) r:=by rw[St.cI,if_neg (by simp[h])]
theorem rC(b r:List St.It)(x:St.It)(h:St.bf b x≠0):St.cI b (x :: r)=St.bf b x:=by rw[St.cI,if_pos h]
def Lr(w:UY)(f:List St.It)(n:Nat)(oI:Value)(wr:UY):Prop:=∃j:Nat,j<=n/\oI=UM US j/\St.cI [] f=St.cI (f.take j) (f.drop j)/\ac w wr
theorem qV{w:UY}{A:Option Addr}{f:List St.It}(h:aO w A f)(j:Nat):aO w A (f.take j):=by
 intro h0;have h1:f.length > 0:=by simp at h0;omega
 obtain⟨b,off,rfl,hb,hc⟩:=h h1;refine⟨b,off,rfl,hb,λm hm=>?_⟩;have hm2:m<f.length:=by simp at hm;omega
 have:=hc m hm2
 simpa using this
theorem FN(A:Option Addr)(n c:Nat)(f:List St.It)(w:UY)(hn:f.length=n)(hnc:n<=c)(dz:c<=9223372036854775807)(hA:A=UW->c=0)(h:aO w A f)(hl:n<=1000000000000)(ht:bc f<=4611686018427387904) :
  Calls Tryz.prog 107 #[.slice A n c] w λe w'=>e=UU (UM US (St.bJ f))/\ac w w':=by
 have H:=aa h;have HN:=aa hn;have HT:=aa ht;have hle:=aa (kA A n c f w hn h hl ht);have hll:=jb f;clear h hn
 by_cases q1:512<n
 ·have z:(512:Int)<(n:Int):=by omega
  have hr:=aa (show St.bJ f=3 by unfold St.bJ;rw[if_pos (.inl (by rw[HN.out];exact q1))]);clear ht;go_enter Tryz.func107,Tryz.ntmps107;go_wp2;go_ret;exact⟨ba hr.out.symm,uZ⟩
 have z:¬(512:Int)<(n:Int):=by omega
 by_cases q2:1024<St.ay f
 ·have z2:(1024:Int)<(St.ay f:Nat):=by omega
  have hr:=aa (show St.bJ f=3 by unfold St.bJ;rw[if_pos (.inr q2)]);clear ht;go_enter Tryz.func107,Tryz.ntmps107;go_wp2_with (go_at_call 29;refine hle.out.mono ?_;rintro e w' ⟨rfl,rfl⟩);go_ret;exact⟨ba hr.out.symm,uZ⟩
 have z2:¬(1024:Int)<(St.ay f:Nat):=by omega
 have hr:=aa (show St.bJ f=St.cI [] f by unfold St.bJ;rw[if_neg (by rw[HN.out];omega)]);clear ht hll;go_enter Tryz.func107,Tryz.ntmps107;go_wp2_with (go_at_call 29;refine hle.out.mono ?_;rintro e w' ⟨rfl,rfl⟩);go_loopw [15] (λoI wr=>Lr w f n oI wr) (λoI _=>n+1-(intOf oI).toNat)
 case atStart=>exact⟨0,by omega,rfl,by simp,ac.refl _⟩
 case round=>
  obtain⟨j,hj,rfl,hv,hu⟩:=hrel;have HV:=aa hv;have HU:=aa hu;clear hv hu
  by_cases hlt:j<n
  ·have aS:j<f.length:=by rw[HN.out];exact hlt
   obtain⟨b,off,rfl,hb,hc⟩:=(H.out.ai HU.out) (by omega);obtain⟨c0,c1,c2⟩:=hc j aS;have hdr:f.drop j=f[j] :: f.drop (j+1):=List.drop_eq_getElem_cons aS;have htk:f.take j++[f[j]]=f.take (j+1):=by rw[List.take_add_one,List.getElem?_eq_getElem aS];rfl
   have hv1:=λhc=>(HV.out.trans (by rw[hdr])).trans (rC (f.take j) (f.drop (j+1)) f[j] hc)
   have hv2:=λhc=>((HV.out.trans (by rw[hdr])).trans (rA (f.take j) (f.drop (j+1)) f[j] hc)).trans (by rw[htk])
   have iD:=oL f j aS;have jk:=λ(W:UY) (hW:ac wr W)=>FF (UX ⟨b,off,UW⟩) j c (f.take j) f[j].1 f[j].2.1 f[j].2.2 W (by simp;omega) (by omega) dz (qV ((H.out.ai HU.out).ai hW) j) (by omega) (Nat.le_trans (fS f j) HT.out) (by have:=HT.out;omega)
   generalize f[j]=y at c0 c1 c2 hv1 hv2 iD jk;obtain⟨yk,yt,yi⟩:=y;simp only at c0 c1 c2 jk;generalize St.bf (f.take j) (yk,yt,yi)=ec at hv1 hv2 jk;have Lk:=aa hv1;have Ll:=aa hv2;have Sf:=aa jk;haveI:af b wr:=af.of hb;have hjn:¬(j=n):=by omega
   clear hc hdr htk hv1 hv2 jk aS iD HV;go_wp2_with fail
   first|refine aM (by kernel_rfl) (by kernel_rfl) ?_|refine aQ (by kernel_rfl) (by kernel_rfl) ?_
   repeat (go_big_quiet_step (first|((go_at_call 148;exact Calls.dM (Sf.out _ ⟨_,rfl⟩)))))
   refine wpQuiet_nil ?_;rintro _ ⟨X,rfl⟩
   by_cases eQ:ec=0
   ·subst eQ;go_wp2;exact⟨⟨j+1,by omega,congrArg (UM US) (by omega),Ll.out rfl,HU.out.trans uZ⟩,by simp[intOf];omega⟩
   have z3:(ec==0)=false:=by simpa using eQ
   have z4:(ec != 0)=true:=by simpa using eQ
   have hf:=aa (Lk.out eQ);clear eQ;go_wp2;go_ret;refine⟨ba ?_,HU.out.trans uZ⟩;rw[hr.out,hf.out]
  have hjn:j=n:=by omega
  subst hjn;have hf:=aa (show St.cI [] f=0 by rw[HV.out,List.drop_of_length_le (by rw[HN.out];omega)];rfl);clear hlt;go_wp2;go_ret;exact⟨ba (by rw[hr.out,hf.out]),HU.out⟩
