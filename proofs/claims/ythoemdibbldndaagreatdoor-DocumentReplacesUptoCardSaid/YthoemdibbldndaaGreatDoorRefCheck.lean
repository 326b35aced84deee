/- The contracts of the reference's IsContent, Check and Validate: what they give is. -/
import Derived.Test.YthoemdibbldndaaGreatDoorGB
set_option linter.all false
set_option maxHeartbeats 0
set_option maxRecDepth 20000
open Go.Value renaming int->VD,string->VE,bool->VG
open Go.IntKind renaming i64->VJ
open Go.Ending renaming returned->VL
open Option renaming none->VM,some->VN
open Go renaming World->VO
namespace Go.Proofs.YthoemdibbldndaaGreatDoor
open Go.RowKit
theorem jZ(t:List UInt8)(w:VO)(hs:t.length<=4611686018427387904):Calls Tryz.prog 105 #[VE ⟨t.toArray⟩] w λe w'=>e=VL (VE ⟨(St.nameOf t).toArray⟩)/\ac w w':=by
 refine(yK ⟨t.toArray⟩ w (by show t.toArray.size<=_;simpa using hs)).mono ?_;rintro e w' ⟨u,rfl,hu,rfl⟩;refine⟨?_,ac.refl _⟩;rw[<-aX u,hu]
def Kf(s:ByteArray)(i:Value):Prop:=∃k:Nat,i=VD VJ k/\k<=s.size/\s.1.1.all St.fU=(s.1.1.drop k).all St.fU
theorem vn{s:List UInt8}(h:s.all St.fU=false):St.a7 s=false:=by unfold St.a7;simp[h]
theorem lz(s:ByteArray)(w:VO)(hs:s.size<=4611686018427387904):Calls Tryz.prog 178 #[VE s] w λe w'=>e=VL (VG (St.a7 s.1.1))/\w=w':=by
 have HLEN:=aa (St.aD s)
 by_cases h64:64<s.size
 ·have z:(64:Int)<s.size:=by omega
  have hr:=aa (show St.a7 s.1.1=false by unfold St.a7;rw[HLEN.out,decide_eq_false (by omega)];rfl);go_enter Tryz.func178,Tryz.ntmps178;go_wp2;go_ret;exact⟨ay hr.out.symm,rfl⟩
 have z:¬(64:Int)<s.size:=by omega
 go_enter Tryz.func178,Tryz.ntmps178;go_wp2;go_loopw [3] (λi wr=>Kf s i/\w=wr) (λi _=>s.size+1-(intOf i).toNat)
 case atStart=>exact⟨⟨0,rfl,by omega,rfl⟩,rfl⟩
 case round=>
  obtain⟨⟨k,rfl,hk,hl⟩,rfl⟩:=hrel;have HL:=aa hl;clear hl
  by_cases hlt:k<s.size
  ·have aw:=St.drop_at s k hlt;have z1:(k:Int)<s.size:=by omega
   cases hcc:St.fU s[k]
   ·have hr:=aa (vn (s:=s.1.1) (by rw[HL.out,aw];simp[hcc]));have pq:=of_decide_eq_false hcc;clear aw hcc
    by_cases q1:s[k].toNat<32
    ·have p1:(s[k].toNat:Int)<32:=by omega
     go_wp2;go_ret;exact⟨ay hr.out.symm,rfl⟩
    have p1:¬(s[k].toNat:Int)<32:=by omega
    by_cases q2:126<s[k].toNat
    ·have p2:(126:Int)<(s[k].toNat:Int):=by omega
     go_wp2;go_ret;exact⟨ay hr.out.symm,rfl⟩
    have p2:¬(126:Int)<(s[k].toNat:Int):=by omega
    rcases(show s[k].toNat=60\/s[k].toNat=62\/s[k].toNat=123\/s[k].toNat=125 by omega)with q|q|q|q
    ·have p3:((s[k].toNat:Int)==60)=true:=by simp;omega
     go_wp2;go_ret;exact⟨ay hr.out.symm,rfl⟩
    ·have p3:((s[k].toNat:Int)==60)=false:=by simp;omega
     have p4:((s[k].toNat:Int)==62)=true:=by simp;omega
     go_wp2;go_ret;exact⟨ay hr.out.symm,rfl⟩
    ·have p3:((s[k].toNat:Int)==60)=false:=by simp;omega
     have p4:((s[k].toNat:Int)==62)=false:=by simp;omega
     have p5:((s[k].toNat:Int)==123)=true:=by simp;omega
     go_wp2;go_ret;exact⟨ay hr.out.symm,rfl⟩
    have p3:((s[k].toNat:Int)==60)=false:=by simp;omega
    have p4:((s[k].toNat:Int)==62)=false:=by simp;omega
    have p5:((s[k].toNat:Int)==123)=false:=by simp;omega
    have p6:((s[k].toNat:Int)==125)=true:=by simp;omega
    go_wp2;go_ret;exact⟨ay hr.out.symm,rfl⟩
   have hl2:=aa (show s.1.1.all St.fU=(s.1.1.drop (k+1)).all St.fU by rw[HL.out,aw];simp[hcc]);have pq:=of_decide_eq_true hcc;have p1:¬(s[k].toNat:Int)<32:=by omega
   have p2:¬(126:Int)<(s[k].toNat:Int):=by omega
   have p3:((s[k].toNat:Int)==60)=false:=by simp;omega
   have p4:((s[k].toNat:Int)==62)=false:=by simp;omega
   have p5:((s[k].toNat:Int)==123)=false:=by simp;omega
   have p6:((s[k].toNat:Int)==125)=false:=by simp;omega
   clear aw hcc pq;go_wp2;exact⟨⟨⟨k+1,congrArg (VD VJ) (by omega),by omega,hl2.out⟩,by trivial⟩,by simp[intOf];omega⟩
  have yc:k=s.size:=by omega
  subst yc;have hall:s.1.1.all St.fU=true:=by rw[HL.out,List.drop_of_length_le (by simp)];rfl
  have hr:St.a7 s.1.1=(St.aS (St.nameOf s.1.1)&&((decide ((St.nameOf s.1.1).length=s.size) || decide ((St.nameOf s.1.1).length+1<s.size))&&(s.1.1.getLast? != VN 47))):=by
   unfold St.a7;rw[HLEN.out,decide_eq_true (by omega),hall];rfl
  obtain⟨nm,hnmd⟩:∃nm,St.nameOf s.1.1=nm:=⟨_,rfl⟩;have oc:nm.length<=s.size:=by rw[<-hnmd,<-HLEN.out];exact(List.takeWhile_prefix _).length_le
  rw[hnmd]at hr;have hnc:=yK s w hs;rw[hnmd]at hnc;have HR:=aa hr;have Qm:=aa hnc;clear hr hnc hall hlt hk hnmd;go_wp2_with fail;refine Qm.out.mono ?_;rintro e w' ⟨t,rfl,ht,rfl⟩;have hts:t.size=nm.length:=by rw[<-ht,St.aD]
  have hin:=ms t w (by omega);rw[ht]at hin;have oG:=aa hin;clear hin ht Qm;cases hb:St.aS nm
  ·rw[hb]at oG HR;clear hb;go_wp2_with fail;refine oG.out.mono ?_;rintro e w' ⟨rfl,rfl⟩;go_wp2;go_ret;exact⟨ay (by rw[HR.out];rfl),rfl⟩
  rw[hb]at oG HR;have hn0:nm≠[]:=by intro e;subst e;cases hb
  have fZ:0<nm.length:=List.length_pos_iff.2 hn0;obtain⟨m,hm⟩:∃m,s.size=m+1:=⟨s.size-1,by omega⟩;have fj:m<s.size:=by omega
  have hlast:s.1.1.getLast?=VN s[m]:=by
   rw[List.getLast?_eq_getElem?,HLEN.out,show s.size-1=m by omega];exact List.getElem?_eq_getElem (by rw[HLEN.out];exact fj)
  rw[hlast]at HR;have z3:(s.size:Int)-1=(m:Int):=by omega
  have z4:(m:Int)<s.size:=by omega
  have N7:(VN s[m] != VN 47)=!(((s[m].toNat:Int)==47)):=by
   by_cases h:s[m].toNat=47
   ·have:s[m]=47:=by apply UInt8.toNat_inj.1;simpa using h
    rw[this];rfl
   have h2:s[m]≠47:=λe=>h (by rw[e];rfl)
   have h3:((s[m].toNat:Int)==47)=false:=by simp;omega
   rw[h3];simp[h2]
  rw[N7]at HR;clear hb hn0 hlast N7
  by_cases q1:nm.length=s.size
  ·have p1:((t.size:Int)==(s.size:Int))=true:=by simp;omega
   rw[decide_eq_true q1]at HR
   by_cases q3:s[m].toNat=47
   ·have p3:((s[m].toNat:Int)==47)=true:=by simp;omega
    have p4:((s[m].toNat:Int) != 47)=false:=by simp;omega
    rw[p3]at HR;go_wp2_with fail;refine oG.out.mono ?_;rintro e w' ⟨rfl,rfl⟩;go_wp2;go_ret;exact⟨ay (by rw[HR.out];rfl),rfl⟩
   have p3:((s[m].toNat:Int)==47)=false:=by simp;omega
   have p4:((s[m].toNat:Int) != 47)=true:=by simp;omega
   rw[p3]at HR;go_wp2_with fail;refine oG.out.mono ?_;rintro e w' ⟨rfl,rfl⟩;go_wp2;go_ret;exact⟨ay (by rw[HR.out];rfl),rfl⟩
  have p1:((t.size:Int)==(s.size:Int))=false:=by simp;omega
  rw[decide_eq_false q1]at HR
  by_cases q2:nm.length+1<s.size
  ·have p2:(t.size:Int)+1<s.size:=by omega
   rw[decide_eq_true q2]at HR
   by_cases q3:s[m].toNat=47
   ·have p3:((s[m].toNat:Int)==47)=true:=by simp;omega
    have p4:((s[m].toNat:Int) != 47)=false:=by simp;omega
    rw[p3]at HR;go_wp2_with fail;refine oG.out.mono ?_;rintro e w' ⟨rfl,rfl⟩;go_wp2;go_ret;exact⟨ay (by rw[HR.out];rfl),rfl⟩
   have p3:((s[m].toNat:Int)==47)=false:=by simp;omega
   have p4:((s[m].toNat:Int) != 47)=true:=by simp;omega
   rw[p3]at HR;go_wp2_with fail;refine oG.out.mono ?_;rintro e w' ⟨rfl,rfl⟩;go_wp2;go_ret;exact⟨ay (by rw[HR.out];rfl),rfl⟩
  have p2:¬(t.size:Int)+1<s.size:=by omega
  rw[decide_eq_false q2]at HR;go_wp2_with fail;refine oG.out.mono ?_;rintro e w' ⟨rfl,rfl⟩;go_wp2;go_ret;exact⟨ay (by rw[HR.out];rfl),rfl⟩
def jQ(W:VO)(f:List St.It)(x:St.It)(n:Nat)(na:Value)(wr:VO):Prop:=∃j:Nat,j<=n/\na=VD VJ j/\(∀y∈f.take j,St.cT x y=false)/\ac W wr
theorem jQ.ah{W:VO}{f:List St.It}{x:St.It}{n:Nat}{na:Value}{wr w':VO}(h:jQ W f x n na wr)(u:ac wr w'):jQ W f x n na w':=by
 obtain⟨j,h1,h2,h3,h4⟩:=h;exact⟨j,h1,h2,h3,h4.trans u⟩
theorem sZ{f:List St.It}{x:St.It}{j:Nat}(h:∀y∈f.take j,St.cT x y=false)(hj:j<f.length)(hc:St.cT x f[j]=false):∀y∈f.take (j+1),St.cT x y=false:=by
 intro y hy;rw[List.take_add_one,List.getElem?_eq_getElem hj]at hy;rcases List.mem_append.1 hy with hy|hy
 ·exact h y hy
 simp at hy;subst hy;exact hc
theorem qm{f:List St.It}{x:St.It}{j:Nat}(hj:j<f.length)(hc:St.cT x f[j]=true):f.any (St.cT x)=true:=List.any_eq_true.2 ⟨f[j],List.getElem_mem hj,hc⟩
theorem vm{f:List St.It}{x:St.It}{n:Nat}(h:∀y∈f.take n,St.cT x y=false)(hn:f.length=n):f.any (St.cT x)=false:=by
 rw[List.take_of_length_le (by omega)]at h;refine Bool.eq_false_iff.2 λe=>?_
 obtain⟨y,hy,hc⟩:=List.any_eq_true.1 e;rw[h y hy]at hc;cases hc
theorem oz(f:List St.It)(j:Nat)(h:j<f.length):f[j].2.1.length<=aP f:=by
 have:=fG f (j+1)
 rw[iW f j h]at this;omega
theorem E3(A:Option Addr)(n c:Nat)(f:List St.It)(k:Int)(t:List UInt8)(i:Int)(w:VO)(hn:f.length=n)(hnc:n<=c)(cN:c<=9223372036854775807)(h:aE w A f)(hl:n<=1000000000000)(ht:aP f<=4611686018427387904)(htl:t.length<=4611686018427387904) :
  Calls Tryz.prog 148 #[.slice A n c,.agg #[VD VJ k,VE ⟨t.toArray⟩,VD VJ i]] w λe w'=>e=VL (VD VJ (St.bo f (k,t,i)))/\ac w w':=by
 have H:=aa h;have HN:=aa hn;have HT:=aa ht;have mx:=aa ((ac.refl w).alloc (.cells #[VD VJ k,VE ⟨t.toArray⟩,VD VJ i] 36));have rA:(⟨t.toArray⟩:ByteArray).size=t.length:=by show t.toArray.size=_;simp
 have oc:=aa (λW=>ms ⟨t.toArray⟩ W (by omega));have sd:=aa (λW=>lz ⟨t.toArray⟩ W (by omega));clear h hn ht
 by_cases k1:k=1
 ·subst k1
  by_cases t0:t=[]
  ·subst t0;have hr:=aa (show St.bo f (1,[],i)=1 by unfold St.bo;simp);go_enter Tryz.func148,Tryz.ntmps148;go_wp2;go_ret;exact⟨bc hr.out.symm,uZ⟩
  have hte:((⟨t.toArray⟩:ByteArray).toList==[])=false:=by rw[Lib.toList_data];simpa using t0
  have Su:t.isEmpty=false:=by simpa using t0
  by_cases i0:i=0
  ·subst i0
   by_cases n0:n=0
   ·subst n0;have hf:f=[]:=List.eq_nil_of_length_eq_zero HN.out;have hr:=aa (show St.bo f (1,t,0)=0 by unfold St.bo;simp[t0,hf]);clear t0 hf;go_enter Tryz.func148,Tryz.ntmps148;go_wp2;go_ret;exact⟨bc hr.out.symm,uZ⟩
   obtain⟨b,off,rfl,hb,hc⟩:=(H.out.ah mx.out) (by rw[HN.out];omega);obtain⟨m,rfl⟩:∃m,n=m+1:=⟨n-1,by omega⟩;have hm:m<f.length:=by rw[HN.out];omega
   obtain⟨c0,_,_⟩:=hc m hm;have hlast:f.getLast?=VN f[m]:=by rw[List.getLast?_eq_getElem?,HN.out];simp[hm]
   have hr:St.bo f (1,t,0)=if f[m].1=1 then 1 else 0:=by unfold St.bo;simp[t0,hlast]
   generalize f[m]=y at c0 hr;obtain⟨yk,yt,yi⟩:=y;simp only at c0 hr;have HR:=aa hr;have AV:((m+1:Nat):Int)-1=(m:Int):=by omega
   haveI:af b (w.alloc (.cells #[VD VJ 1,VE ⟨t.toArray⟩,VD VJ 0] 36)):=af.of hb;have NW:b<w.1.size\/b=w.1.size:=by simp at hb;omega
   clear t0 hc hr hlast n0 hb
   by_cases hyk:yk=1
   ·subst hyk;go_enter Tryz.func148,Tryz.ntmps148;go_wp2;go_ret;exact⟨bc (by rw[HR.out];rfl),uZ⟩
   have Sz:(yk==1)=false:=by simpa using hyk
   go_enter Tryz.func148,Tryz.ntmps148;go_wp2;go_ret;exact⟨bc (by rw[HR.out,if_neg hyk]),uZ⟩
  have z1:(i==0)=false:=by simpa using i0
  have z2:(i != 0)=true:=by simpa using i0
  have hr:=aa (show St.bo f (1,t,i)=1 by unfold St.bo;simp[i0]);clear t0 i0;go_enter Tryz.func148,Tryz.ntmps148;go_wp2;go_ret;exact⟨bc hr.out.symm,uZ⟩
 have z1:(k==1)=false:=by simpa using k1
 by_cases k5:k=5
 ·subst k5;clear k1 z1;cases hnb:St.aS t
  ·have hr:=aa (show St.bo f (5,t,i)=1 by unfold St.bo;simp[hnb]);have bk:Hid (∀W,Calls Tryz.prog 177 #[VE ⟨t.toArray⟩] W λe w'=>e=VL (VG false)/\W=w'):=aa (λW=>by have:=oc.out W;simp only[hnb]at this;exact this);clear hnb;go_enter Tryz.func148,Tryz.ntmps148;go_wp2_with (go_at_call 177;refine(bk.out _).mono ?_;rintro e w' ⟨rfl,rfl⟩);go_ret;exact⟨bc hr.out.symm,uZ⟩
  have bk:Hid (∀W,Calls Tryz.prog 177 #[VE ⟨t.toArray⟩] W λe w'=>e=VL (VG true)/\W=w'):=aa (λW=>by have:=oc.out W;simp only[hnb]at this;exact this)
  by_cases i0:i=0
  ·subst i0;have hr:=aa (show St.bo f (5,t,0)=0 by unfold St.bo;simp[hnb]);clear hnb;go_enter Tryz.func148,Tryz.ntmps148;go_wp2_with (go_at_call 177;refine(bk.out _).mono ?_;rintro e w' ⟨rfl,rfl⟩);go_ret;exact⟨bc hr.out.symm,uZ⟩
  have z2:(i==0)=false:=by simpa using i0
  have z3:(i != 0)=true:=by simpa using i0
  have hr:=aa (show St.bo f (5,t,i)=1 by unfold St.bo;simp[i0]);clear hnb i0;go_enter Tryz.func148,Tryz.ntmps148;go_wp2_with (go_at_call 177;refine(bk.out _).mono ?_;rintro e w' ⟨rfl,rfl⟩);go_ret;exact⟨bc hr.out.symm,uZ⟩
 have z5:(k==5)=false:=by simpa using k5
 by_cases k2:k=2
 ·subst k2;clear k1 k5 z1 z5;cases hnb:St.a7 t
  ·have hr:=aa (show St.bo f (2,t,i)=1 by unfold St.bo;simp[hnb]);have bk:Hid (∀W,Calls Tryz.prog 178 #[VE ⟨t.toArray⟩] W λe w'=>e=VL (VG false)/\W=w'):=aa (λW=>by have:=sd.out W;simp only[hnb]at this;exact this);clear hnb;go_enter Tryz.func148,Tryz.ntmps148;go_wp2_with (go_at_call 178;refine(bk.out _).mono ?_;rintro e w' ⟨rfl,rfl⟩);go_ret;exact⟨bc hr.out.symm,uZ⟩
  have bk:Hid (∀W,Calls Tryz.prog 178 #[VE ⟨t.toArray⟩] W λe w'=>e=VL (VG true)/\W=w'):=aa (λW=>by have:=sd.out W;simp only[hnb]at this;exact this)
  by_cases i1:i<1
  ·have hr:=aa (show St.bo f (2,t,i)=1 by unfold St.bo;simp[hnb];omega);clear hnb;go_enter Tryz.func148,Tryz.ntmps148;go_wp2_with (go_at_call 178;refine(bk.out _).mono ?_;rintro e w' ⟨rfl,rfl⟩);go_ret;exact⟨bc hr.out.symm,uZ⟩
  by_cases i9:999<i
  ·have hr:=aa (show St.bo f (2,t,i)=1 by unfold St.bo;simp[hnb];omega);clear hnb;go_enter Tryz.func148,Tryz.ntmps148;go_wp2_with (go_at_call 178;refine(bk.out _).mono ?_;rintro e w' ⟨rfl,rfl⟩);go_ret;exact⟨bc hr.out.symm,uZ⟩
  have HR:=aa (show St.bo f (2,t,i)=if f.any (St.cT (2,t,i))then 7 else 0 by
   unfold St.bo;simp only[hnb,show(1:Int)<=i by omega,show i<=999 by omega]
   simp)
  have HB:=mx;clear hnb;go_enter Tryz.func148,Tryz.ntmps148;go_wp2_with (go_at_call 178;refine(bk.out _).mono ?_;rintro e w' ⟨rfl,rfl⟩);go_loopw [80] (λna wr=>jQ (w.alloc (.cells #[VD VJ 2,VE ⟨t.toArray⟩,VD VJ i] 36)) f (2,t,i) n na wr) (λna _=>n+1-(intOf na).toNat)
  case atStart=>exact⟨0,by omega,rfl,by simp,uZ⟩
  case round=>
   obtain⟨j,hj,rfl,hcl,hu⟩:=hrel;have jh:=aa hcl;have HU:=aa hu;have rN:=aa (HB.out.trans hu);have rl:=HT.out;have b0:wr.cell? ⟨w.1.size,0,VM⟩=VN (VD VJ 2):=(hu.cell (p:=⟨w.1.size,0,VM⟩) (by simp)).trans (by simp);have b1:wr.cell? ⟨w.1.size,1,VM⟩=VN (VE ⟨t.toArray⟩):=(hu.cell (p:=⟨w.1.size,1,VM⟩) (by simp)).trans (by simp);have b2:wr.cell? ⟨w.1.size,2,VM⟩=VN (VD VJ i):=(hu.cell (p:=⟨w.1.size,2,VM⟩) (by simp)).trans (by simp);haveI:af w.1.size wr:=af.of (cd _ _ b0);clear hcl hu
   by_cases hlt:j<n
   ·have aG:j<f.length:=by rw[HN.out];exact hlt
    obtain⟨b,off,rfl,hb,hc⟩:=(H.out.ah rN.out) (by omega);obtain⟨c0,c1,c2⟩:=hc j aG;have hst:=aa (sZ jh.out aG);have hfo:=aa (qm (f:=f) (x:=(2,t,i)) aG);have iF:=aa (oz f j aG);generalize f[j]=y at c0 c1 c2 hst hfo iF;obtain⟨yk,yt,yi⟩:=y;simp only at c0 c1 c2;haveI:af b wr:=af.of hb;clear hc aG;go_wp2_with fail;refine(kP yk ⟨yt.toArray⟩ yi _).mono ?_;rintro e w3 ⟨rfl,hu3⟩;have bO:ac wr w3:=ac.trans (uZ) hu3;have d0:w3.cell? ⟨wr.1.size,0,VM⟩=VN (VD VJ yk):=(hu3.cell (p:=⟨wr.1.size,0,VM⟩) (by simp)).trans (by simp);have d1:w3.cell? ⟨wr.1.size,1,VM⟩=VN (VE ⟨yt.toArray⟩):=(hu3.cell (p:=⟨wr.1.size,1,VM⟩) (by simp)).trans (by simp);have d2:w3.cell? ⟨wr.1.size,2,VM⟩=VN (VD VJ yi):=(hu3.cell (p:=⟨wr.1.size,2,VM⟩) (by simp)).trans (by simp);have e0:w3.cell? ⟨w.1.size,0,VM⟩=VN (VD VJ 2):=(bO.cell (af.lt inferInstance)).trans b0;have e1:w3.cell? ⟨w.1.size,1,VM⟩=VN (VE ⟨t.toArray⟩):=(bO.cell (af.lt inferInstance)).trans b1;have e2:w3.cell? ⟨w.1.size,2,VM⟩=VN (VD VJ i):=(bO.cell (af.lt inferInstance)).trans b2;haveI:af w.1.size w3:=af.of (cd _ _ e0);haveI:af wr.1.size w3:=af.of (cd _ _ d0);have ba:=aa (HU.out.trans bO);clear hu3 bO b0 b1 b2 c0 c1 c2 HU rN;have lr:St.cT (2,t,i) (yk,yt,yi)=false->jQ (w.alloc (.cells #[VD VJ 2,VE ⟨t.toArray⟩,VD VJ i] 36)) f (2,t,i) n (VD VJ ((j:Int)+1)) w3:=λh=>⟨j+1,by omega,congrArg (VD VJ) (by omega),hst.out h,ba.out⟩
    have dI:=aa lr;clear lr;cases htk:St.bI yk
    ·have ll:=aa (dI.out (by unfold St.cT;rw[htk];rfl));clear htk dI;go_wp2;exact⟨ll.out,by simp[intOf];omega⟩
    by_cases jH:yi=i
    ·subst jH;have v1:(yi==yi)=true:=beq_self_eq_true _;have v2:(yi != yi)=false:=by simp
     have hct:=aa (hfo.out (by unfold St.cT;simp[htk]));clear htk dI;go_wp2_with fail
     first|refine aB (by kernel_rfl) (by kernel_rfl) ?_|refine aI (by kernel_rfl) (by kernel_rfl) ?_
     repeat (go_big_quiet_step (first|(fail)))
     refine wpQuiet_nil ?_;rintro _ ⟨X,rfl⟩;go_wp2;go_ret;refine⟨bc ?_,mx.out.trans (ba.out.trans uZ)⟩;rw[HR.out,hct.out];rfl
    have v1:(yi==i)=false:=by simpa using jH
    have v2:(yi != i)=true:=by simpa using jH
    have ll:=aa (dI.out (by unfold St.cT;simp[jH]));clear htk dI jH;go_wp2;exact⟨ll.out,by simp[intOf];omega⟩
   have hjn:j=n:=by omega
   subst hjn;have hnone:=aa (vm jh.out HN.out);clear hlt b0 b1 b2;go_wp2;go_ret;refine⟨bc ?_,mx.out.trans HU.out⟩;rw[HR.out,hnone.out];rfl
 by_cases k4:k=4
 ·subst k4;clear k1 k5 z1 z5 k2;cases hnb:St.a7 t
  ·have hr:=aa (show St.bo f (4,t,i)=1 by unfold St.bo;simp[hnb]);have bk:Hid (∀W,Calls Tryz.prog 178 #[VE ⟨t.toArray⟩] W λe w'=>e=VL (VG false)/\W=w'):=aa (λW=>by have:=sd.out W;simp only[hnb]at this;exact this);clear hnb;go_enter Tryz.func148,Tryz.ntmps148;go_wp2_with (go_at_call 178;refine(bk.out _).mono ?_;rintro e w' ⟨rfl,rfl⟩);go_ret;exact⟨bc hr.out.symm,uZ⟩
  have bk:Hid (∀W,Calls Tryz.prog 178 #[VE ⟨t.toArray⟩] W λe w'=>e=VL (VG true)/\W=w'):=aa (λW=>by have:=sd.out W;simp only[hnb]at this;exact this)
  by_cases i1:i<1
  ·have hr:=aa (show St.bo f (4,t,i)=1 by unfold St.bo;simp[hnb];omega);clear hnb;go_enter Tryz.func148,Tryz.ntmps148;go_wp2_with (go_at_call 178;refine(bk.out _).mono ?_;rintro e w' ⟨rfl,rfl⟩);go_ret;exact⟨bc hr.out.symm,uZ⟩
  by_cases i9:999<i
  ·have hr:=aa (show St.bo f (4,t,i)=1 by unfold St.bo;simp[hnb];omega);clear hnb;go_enter Tryz.func148,Tryz.ntmps148;go_wp2_with (go_at_call 178;refine(bk.out _).mono ?_;rintro e w' ⟨rfl,rfl⟩);go_ret;exact⟨bc hr.out.symm,uZ⟩
  have HR:=aa (show St.bo f (4,t,i)=if f.any (St.cT (4,t,i))then 7 else 0 by
   unfold St.bo;simp only[hnb,show(1:Int)<=i by omega,show i<=999 by omega]
   simp)
  have HB:=mx;clear hnb;go_enter Tryz.func148,Tryz.ntmps148;go_wp2_with (go_at_call 178;refine(bk.out _).mono ?_;rintro e w' ⟨rfl,rfl⟩);go_loopw [80] (λna wr=>jQ (w.alloc (.cells #[VD VJ 4,VE ⟨t.toArray⟩,VD VJ i] 36)) f (4,t,i) n na wr) (λna _=>n+1-(intOf na).toNat)
  case atStart=>exact⟨0,by omega,rfl,by simp,uZ⟩
  case round=>
   obtain⟨j,hj,rfl,hcl,hu⟩:=hrel;have jh:=aa hcl;have HU:=aa hu;have rN:=aa (HB.out.trans hu);have rl:=HT.out;have b0:wr.cell? ⟨w.1.size,0,VM⟩=VN (VD VJ 4):=(hu.cell (p:=⟨w.1.size,0,VM⟩) (by simp)).trans (by simp);have b1:wr.cell? ⟨w.1.size,1,VM⟩=VN (VE ⟨t.toArray⟩):=(hu.cell (p:=⟨w.1.size,1,VM⟩) (by simp)).trans (by simp);have b2:wr.cell? ⟨w.1.size,2,VM⟩=VN (VD VJ i):=(hu.cell (p:=⟨w.1.size,2,VM⟩) (by simp)).trans (by simp);haveI:af w.1.size wr:=af.of (cd _ _ b0);clear hcl hu
   by_cases hlt:j<n
   ·have aG:j<f.length:=by rw[HN.out];exact hlt
    obtain⟨b,off,rfl,hb,hc⟩:=(H.out.ah rN.out) (by omega);obtain⟨c0,c1,c2⟩:=hc j aG;have hst:=aa (sZ jh.out aG);have hfo:=aa (qm (f:=f) (x:=(4,t,i)) aG);have iF:=aa (oz f j aG);generalize f[j]=y at c0 c1 c2 hst hfo iF;obtain⟨yk,yt,yi⟩:=y;simp only at c0 c1 c2;haveI:af b wr:=af.of hb;clear hc aG;go_wp2_with fail;refine(kP yk ⟨yt.toArray⟩ yi _).mono ?_;rintro e w3 ⟨rfl,hu3⟩;have bO:ac wr w3:=ac.trans (uZ) hu3;have d0:w3.cell? ⟨wr.1.size,0,VM⟩=VN (VD VJ yk):=(hu3.cell (p:=⟨wr.1.size,0,VM⟩) (by simp)).trans (by simp);have d1:w3.cell? ⟨wr.1.size,1,VM⟩=VN (VE ⟨yt.toArray⟩):=(hu3.cell (p:=⟨wr.1.size,1,VM⟩) (by simp)).trans (by simp);have d2:w3.cell? ⟨wr.1.size,2,VM⟩=VN (VD VJ yi):=(hu3.cell (p:=⟨wr.1.size,2,VM⟩) (by simp)).trans (by simp);have e0:w3.cell? ⟨w.1.size,0,VM⟩=VN (VD VJ 4):=(bO.cell (af.lt inferInstance)).trans b0;have e1:w3.cell? ⟨w.1.size,1,VM⟩=VN (VE ⟨t.toArray⟩):=(bO.cell (af.lt inferInstance)).trans b1;have e2:w3.cell? ⟨w.1.size,2,VM⟩=VN (VD VJ i):=(bO.cell (af.lt inferInstance)).trans b2;haveI:af w.1.size w3:=af.of (cd _ _ e0);haveI:af wr.1.size w3:=af.of (cd _ _ d0);have ba:=aa (HU.out.trans bO);clear hu3 bO b0 b1 b2 c0 c1 c2 HU rN;have lr:St.cT (4,t,i) (yk,yt,yi)=false->jQ (w.alloc (.cells #[VD VJ 4,VE ⟨t.toArray⟩,VD VJ i] 36)) f (4,t,i) n (VD VJ ((j:Int)+1)) w3:=λh=>⟨j+1,by omega,congrArg (VD VJ) (by omega),hst.out h,ba.out⟩
    have dI:=aa lr;clear lr;cases htk:St.bI yk
    ·have ll:=aa (dI.out (by unfold St.cT;rw[htk];rfl));clear htk dI;go_wp2;exact⟨ll.out,by simp[intOf];omega⟩
    by_cases jH:yi=i
    ·subst jH;have v1:(yi==yi)=true:=beq_self_eq_true _;have v2:(yi != yi)=false:=by simp
     have hct:=aa (hfo.out (by unfold St.cT;simp[htk]));clear htk dI;go_wp2_with fail
     first|refine aB (by kernel_rfl) (by kernel_rfl) ?_|refine aI (by kernel_rfl) (by kernel_rfl) ?_
     repeat (go_big_quiet_step (first|(fail)))
     refine wpQuiet_nil ?_;rintro _ ⟨X,rfl⟩;go_wp2;go_ret;refine⟨bc ?_,mx.out.trans (ba.out.trans uZ)⟩;rw[HR.out,hct.out];rfl
    have v1:(yi==i)=false:=by simpa using jH
    have v2:(yi != i)=true:=by simpa using jH
    have ll:=aa (dI.out (by unfold St.cT;simp[jH]));clear htk dI jH;go_wp2;exact⟨ll.out,by simp[intOf];omega⟩
   have hjn:j=n:=by omega
   subst hjn;have hnone:=aa (vm jh.out HN.out);clear hlt b0 b1 b2;go_wp2;go_ret;refine⟨bc ?_,mx.out.trans HU.out⟩;rw[HR.out,hnone.out];rfl
 by_cases k3:k=3
 ·subst k3;clear k1 k5 z1 z5 k2 k4;cases hnb:St.aS t
  ·have hr:=aa (show St.bo f (3,t,i)=1 by unfold St.bo;simp[hnb]);have bk:Hid (∀W,Calls Tryz.prog 177 #[VE ⟨t.toArray⟩] W λe w'=>e=VL (VG false)/\W=w'):=aa (λW=>by have:=oc.out W;simp only[hnb]at this;exact this);clear hnb;go_enter Tryz.func148,Tryz.ntmps148;go_wp2_with (go_at_call 177;refine(bk.out _).mono ?_;rintro e w' ⟨rfl,rfl⟩);go_ret;exact⟨bc hr.out.symm,uZ⟩
  have bk:Hid (∀W,Calls Tryz.prog 177 #[VE ⟨t.toArray⟩] W λe w'=>e=VL (VG true)/\W=w'):=aa (λW=>by have:=oc.out W;simp only[hnb]at this;exact this)
  by_cases i1:i<1
  ·have hr:=aa (show St.bo f (3,t,i)=1 by unfold St.bo;simp[hnb];omega);clear hnb;go_enter Tryz.func148,Tryz.ntmps148;go_wp2_with (go_at_call 177;refine(bk.out _).mono ?_;rintro e w' ⟨rfl,rfl⟩);go_ret;exact⟨bc hr.out.symm,uZ⟩
  by_cases i9:999<i
  ·have hr:=aa (show St.bo f (3,t,i)=1 by unfold St.bo;simp[hnb];omega);clear hnb;go_enter Tryz.func148,Tryz.ntmps148;go_wp2_with (go_at_call 177;refine(bk.out _).mono ?_;rintro e w' ⟨rfl,rfl⟩);go_ret;exact⟨bc hr.out.symm,uZ⟩
  have HR:=aa (show St.bo f (3,t,i)=if f.any (St.cT (3,t,i))then 7 else 0 by
   unfold St.bo;simp only[hnb,show(1:Int)<=i by omega,show i<=999 by omega]
   simp)
  have HB:=mx;clear hnb;go_enter Tryz.func148,Tryz.ntmps148;go_wp2_with (go_at_call 177;refine(bk.out _).mono ?_;rintro e w' ⟨rfl,rfl⟩);go_loopw [80] (λna wr=>jQ (w.alloc (.cells #[VD VJ 3,VE ⟨t.toArray⟩,VD VJ i] 36)) f (3,t,i) n na wr) (λna _=>n+1-(intOf na).toNat)
  case atStart=>exact⟨0,by omega,rfl,by simp,uZ⟩
  case round=>
   obtain⟨j,hj,rfl,hcl,hu⟩:=hrel;have jh:=aa hcl;have HU:=aa hu;have rN:=aa (HB.out.trans hu);have rl:=HT.out;have b0:wr.cell? ⟨w.1.size,0,VM⟩=VN (VD VJ 3):=(hu.cell (p:=⟨w.1.size,0,VM⟩) (by simp)).trans (by simp);have b1:wr.cell? ⟨w.1.size,1,VM⟩=VN (VE ⟨t.toArray⟩):=(hu.cell (p:=⟨w.1.size,1,VM⟩) (by simp)).trans (by simp);have b2:wr.cell? ⟨w.1.size,2,VM⟩=VN (VD VJ i):=(hu.cell (p:=⟨w.1.size,2,VM⟩) (by simp)).trans (by simp);haveI:af w.1.size wr:=af.of (cd _ _ b0);clear hcl hu
   by_cases hlt:j<n
   ·have aG:j<f.length:=by rw[HN.out];exact hlt
    obtain⟨b,off,rfl,hb,hc⟩:=(H.out.ah rN.out) (by omega);obtain⟨c0,c1,c2⟩:=hc j aG;have hst:=aa (sZ jh.out aG);have hfo:=aa (qm (f:=f) (x:=(3,t,i)) aG);have iF:=aa (oz f j aG);generalize f[j]=y at c0 c1 c2 hst hfo iF;obtain⟨yk,yt,yi⟩:=y;simp only at c0 c1 c2;haveI:af b wr:=af.of hb;clear hc aG;go_wp2_with fail;refine(kP yk ⟨yt.toArray⟩ yi _).mono ?_;rintro e w3 ⟨rfl,hu3⟩;have bO:ac wr w3:=ac.trans (uZ) hu3;have d0:w3.cell? ⟨wr.1.size,0,VM⟩=VN (VD VJ yk):=(hu3.cell (p:=⟨wr.1.size,0,VM⟩) (by simp)).trans (by simp);have d1:w3.cell? ⟨wr.1.size,1,VM⟩=VN (VE ⟨yt.toArray⟩):=(hu3.cell (p:=⟨wr.1.size,1,VM⟩) (by simp)).trans (by simp);have d2:w3.cell? ⟨wr.1.size,2,VM⟩=VN (VD VJ yi):=(hu3.cell (p:=⟨wr.1.size,2,VM⟩) (by simp)).trans (by simp);have e0:w3.cell? ⟨w.1.size,0,VM⟩=VN (VD VJ 3):=(bO.cell (af.lt inferInstance)).trans b0;have e1:w3.cell? ⟨w.1.size,1,VM⟩=VN (VE ⟨t.toArray⟩):=(bO.cell (af.lt inferInstance)).trans b1;have e2:w3.cell? ⟨w.1.size,2,VM⟩=VN (VD VJ i):=(bO.cell (af.lt inferInstance)).trans b2;haveI:af w.1.size w3:=af.of (cd _ _ e0);haveI:af wr.1.size w3:=af.of (cd _ _ d0);have ba:=aa (HU.out.trans bO);clear hu3 bO b0 b1 b2 c0 c1 c2 HU rN;have lr:St.cT (3,t,i) (yk,yt,yi)=false->jQ (w.alloc (.cells #[VD VJ 3,VE ⟨t.toArray⟩,VD VJ i] 36)) f (3,t,i) n (VD VJ ((j:Int)+1)) w3:=λh=>⟨j+1,by omega,congrArg (VD VJ) (by omega),hst.out h,ba.out⟩
    have dI:=aa lr;clear lr;cases htk:St.bI yk
    ·have ll:=aa (dI.out (by unfold St.cT;rw[htk];rfl));clear htk dI;go_wp2;exact⟨ll.out,by simp[intOf];omega⟩
    by_cases jH:yi=i
    ·subst jH;have v1:(yi==yi)=true:=beq_self_eq_true _;have v2:(yi != yi)=false:=by simp
     by_cases hyk:yk=2
     ·subst hyk;have GJ:=aa (λW=>jZ yt W (Nat.le_trans iF.out rl))
      by_cases aZ:St.nameOf yt=t
      ·have ll:=aa (dI.out (by unfold St.cT;simp[aZ]));have hb:((⟨(St.nameOf yt).toArray⟩:ByteArray).toList==(⟨t.toArray⟩:ByteArray).toList)=true:=by rw[aZ];exact beq_self_eq_true _
       have hb2:((⟨(St.nameOf yt).toArray⟩:ByteArray).toList != (⟨t.toArray⟩:ByteArray).toList)=false:=by rw[aZ];simp
       clear htk dI;go_wp2_with fail
       first|refine aB (by kernel_rfl) (by kernel_rfl) ?_|refine aI (by kernel_rfl) (by kernel_rfl) ?_
       repeat (go_big_quiet_step (first|((go_at_call 105;exact Calls.cK (GJ.out _)))))
       refine wpQuiet_nil ?_;rintro _ ⟨X,rfl⟩;go_wp2;exact⟨jQ.ah ll.out uZ,by simp[intOf];omega⟩
      have hct:=aa (hfo.out (by unfold St.cT;simp[htk,aZ]));have hb3:(St.nameOf yt==t)=false:=by simpa using aZ
      have hb4:(St.nameOf yt != t)=true:=by simpa using aZ
      have hb:((⟨(St.nameOf yt).toArray⟩:ByteArray).toList==(⟨t.toArray⟩:ByteArray).toList)=false:=by rw[Lib.toList_data,Lib.toList_data];simpa using aZ
      have hb2:((⟨(St.nameOf yt).toArray⟩:ByteArray).toList != (⟨t.toArray⟩:ByteArray).toList)=true:=by rw[Lib.toList_data,Lib.toList_data];simpa using aZ
      clear htk dI;go_wp2_with fail
      first|refine aB (by kernel_rfl) (by kernel_rfl) ?_|refine aI (by kernel_rfl) (by kernel_rfl) ?_
      repeat (go_big_quiet_step (first|((go_at_call 105;exact Calls.cK (GJ.out _)))))
      refine wpQuiet_nil ?_;rintro _ ⟨X,rfl⟩;go_wp2;go_ret;refine⟨bc ?_,mx.out.trans (ba.out.trans uZ)⟩;rw[HR.out,hct.out];rfl
     have v3:(yk==2)=false:=by simpa using hyk
     have v4:(yk != 2)=true:=by simpa using hyk
     have hct:=aa (hfo.out (by unfold St.cT;simp[htk,hyk]));clear htk dI hyk;go_wp2_with fail
     first|refine aB (by kernel_rfl) (by kernel_rfl) ?_|refine aI (by kernel_rfl) (by kernel_rfl) ?_
     repeat (go_big_quiet_step (first|(fail)))
     refine wpQuiet_nil ?_;rintro _ ⟨X,rfl⟩;go_wp2;go_ret;refine⟨bc ?_,mx.out.trans (ba.out.trans uZ)⟩;rw[HR.out,hct.out];rfl
    have v1:(yi==i)=false:=by simpa using jH
    have v2:(yi != i)=true:=by simpa using jH
    have ll:=aa (dI.out (by unfold St.cT;simp[jH]));clear htk dI jH;go_wp2;exact⟨ll.out,by simp[intOf];omega⟩
   have hjn:j=n:=by omega
   subst hjn;have hnone:=aa (vm jh.out HN.out);clear hlt b0 b1 b2;go_wp2;go_ret;refine⟨bc ?_,mx.out.trans HU.out⟩;rw[HR.out,hnone.out];rfl
 have z2:(k==2)=false:=by simpa using k2
 have z4:(k==4)=false:=by simpa using k4
 have z3:(k==3)=false:=by simpa using k3
 have hr:=aa (show St.bo f (k,t,i)=1 by unfold St.bo;simp[k1,k2,k3,k4,k5]);clear k1 k2 k3 k4 k5;go_enter Tryz.func148,Tryz.ntmps148;go_wp2;go_ret;exact⟨bc hr.out.symm,uZ⟩
theorem rh(b r:List St.It)(x:St.It)(h:St.bo b x=0):St.dK b (x :: r)=St.dK (b++[x]) r:=by rw[St.dK,if_neg (by simp[h])]
theorem rj(b r:List St.It)(x:St.It)(h:St.bo b x≠0):St.dK b (x :: r)=St.bo b x:=by rw[St.dK,if_pos h]
def KQ(w:VO)(f:List St.It)(n:Nat)(oy:Value)(wr:VO):Prop:=∃j:Nat,j<=n/\oy=VD VJ j/\St.dK [] f=St.dK (f.take j) (f.drop j)/\ac w wr
theorem qF{w:VO}{A:Option Addr}{f:List St.It}(h:aE w A f)(j:Nat):aE w A (f.take j):=by
 intro h0;have h1:f.length > 0:=by simp at h0;omega
 obtain⟨b,off,rfl,hb,hc⟩:=h h1;refine⟨b,off,rfl,hb,λm hm=>?_⟩;have hm2:m<f.length:=by simp at hm;omega
 have:=hc m hm2
 simpa using this
theorem E9(A:Option Addr)(n c:Nat)(f:List St.It)(w:VO)(hn:f.length=n)(hnc:n<=c)(cN:c<=9223372036854775807)(hA:A=VM->c=0)(h:aE w A f)(hl:n<=1000000000000)(ht:aP f<=4611686018427387904) :
  Calls Tryz.prog 107 #[.slice A n c] w λe w'=>e=VL (VD VJ (St.bV f))/\ac w w':=by
 have H:=aa h;have HN:=aa hn;have HT:=aa ht;have hle:=aa (jc A n c f w hn h hl ht);have hll:=fW f;clear h hn
 by_cases q1:512<n
 ·have z:(512:Int)<(n:Int):=by omega
  have hr:=aa (show St.bV f=3 by unfold St.bV;rw[if_pos (.inl (by rw[HN.out];exact q1))]);clear ht;go_enter Tryz.func107,Tryz.ntmps107;go_wp2;go_ret;exact⟨bc hr.out.symm,uZ⟩
 have z:¬(512:Int)<(n:Int):=by omega
 by_cases q2:1024<St.aR f
 ·have z2:(1024:Int)<(St.aR f:Nat):=by omega
  have hr:=aa (show St.bV f=3 by unfold St.bV;rw[if_pos (.inr q2)]);clear ht;go_enter Tryz.func107,Tryz.ntmps107;go_wp2_with (go_at_call 29;refine hle.out.mono ?_;rintro e w' ⟨rfl,rfl⟩);go_ret;exact⟨bc hr.out.symm,uZ⟩
 have z2:¬(1024:Int)<(St.aR f:Nat):=by omega
 have hr:=aa (show St.bV f=St.dK [] f by unfold St.bV;rw[if_neg (by rw[HN.out];omega)]);clear ht hll;go_enter Tryz.func107,Tryz.ntmps107;go_wp2_with (go_at_call 29;refine hle.out.mono ?_;rintro e w' ⟨rfl,rfl⟩);go_loopw [15] (λoy wr=>KQ w f n oy wr) (λoy _=>n+1-(intOf oy).toNat)
 case atStart=>exact⟨0,by omega,rfl,by simp,ac.refl _⟩
 case round=>
  obtain⟨j,hj,rfl,hv,hu⟩:=hrel;have HV:=aa hv;have HU:=aa hu;clear hv hu
  by_cases hlt:j<n
  ·have aG:j<f.length:=by rw[HN.out];exact hlt
   obtain⟨b,off,rfl,hb,hc⟩:=(H.out.ah HU.out) (by omega);obtain⟨c0,c1,c2⟩:=hc j aG;have hdr:f.drop j=f[j] :: f.drop (j+1):=List.drop_eq_getElem_cons aG;have htk:f.take j++[f[j]]=f.take (j+1):=by rw[List.take_add_one,List.getElem?_eq_getElem aG];rfl
   have hv1:=λhc=>(HV.out.trans (by rw[hdr])).trans (rj (f.take j) (f.drop (j+1)) f[j] hc)
   have hv2:=λhc=>((HV.out.trans (by rw[hdr])).trans (rh (f.take j) (f.drop (j+1)) f[j] hc)).trans (by rw[htk])
   have iF:=oz f j aG;have jC:=λ(W:VO) (hW:ac wr W)=>E3 (VN ⟨b,off,VM⟩) j c (f.take j) f[j].1 f[j].2.1 f[j].2.2 W (by simp;omega) (by omega) cN (qF ((H.out.ah HU.out).ah hW) j) (by omega) (Nat.le_trans (fG f j) HT.out) (by have:=HT.out;omega)
   generalize f[j]=y at c0 c1 c2 hv1 hv2 iF jC;obtain⟨yk,yt,yi⟩:=y;simp only at c0 c1 c2 jC;generalize St.bo (f.take j) (yk,yt,yi)=ec at hv1 hv2 jC;have vd:=aa hv1;have ve:=aa hv2;have SH:=aa jC;haveI:af b wr:=af.of hb;have hjn:¬(j=n):=by omega
   clear hc hdr htk hv1 hv2 jC aG iF HV;go_wp2_with fail
   first|refine aB (by kernel_rfl) (by kernel_rfl) ?_|refine aI (by kernel_rfl) (by kernel_rfl) ?_
   repeat (go_big_quiet_step (first|((go_at_call 148;exact Calls.cK (SH.out _ ⟨_,rfl⟩)))))
   refine wpQuiet_nil ?_;rintro _ ⟨X,rfl⟩
   by_cases eU:ec=0
   ·subst eU;go_wp2;exact⟨⟨j+1,by omega,congrArg (VD VJ) (by omega),ve.out rfl,HU.out.trans uZ⟩,by simp[intOf];omega⟩
   have z3:(ec==0)=false:=by simpa using eU
   have z4:(ec != 0)=true:=by simpa using eU
   have hf:=aa (vd.out eU);clear eU;go_wp2;go_ret;refine⟨bc ?_,HU.out.trans uZ⟩;rw[hr.out,hf.out]
  have hjn:j=n:=by omega
  subst hjn;have hf:=aa (show St.dK [] f=0 by rw[HV.out,List.drop_of_length_le (by rw[HN.out];omega)];rfl);clear hlt;go_wp2;go_ret;exact⟨bc (by rw[hr.out,hf.out]),HU.out⟩
