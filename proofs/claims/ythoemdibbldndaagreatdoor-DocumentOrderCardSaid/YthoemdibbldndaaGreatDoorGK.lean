/- The contracts of the makers shield and longer. -/
import Derived.Test.YthoemdibbldndaaGreatDoorGL
import Derived.Test.YthoemdibbldndaaGreatDoorRefEnc
import Derived.Test.YthoemdibbldndaaGreatDoorRefSlice
import Derived.Test.YthoemdibbldndaaGreatDoorDcB
set_option linter.all false
set_option maxHeartbeats 0
set_option maxRecDepth 20000
open Go.Value renaming int->Yp,string->Yq,pointer->Yt
open Option renaming none->Yy,some->Yz
namespace Go.Proofs.YthoemdibbldndaaGreatDoor
open Go.RowKit
section
namespace St
def ck:List UInt8->List UInt8
 | c :: r=>if c.toNat=32 then[92,115]++r else c :: r
 | []=>[]
def dJ(r:Nat):List UInt8:=if r=0 then[]else if r=1 then[32]else[9,32]
def jY(fmt:Int)(p:It)(b:List UInt8):Prop:=
 b=aL fmt p\/(fmt=1/\p.1=1/\((p.2.1=[62]/\b=[38,103,116,59])\/(p.2.1=[125]/\b=[38,114,98,59])))\/
  (fmt=2/\((p.1=1/\p.2.1=[32]/\b=[92,115])\/(∃r,r<3/\b=[92,10]++dJ r++ck (aL 2 p))))
end St
def j7(r:Nat):ByteArray:=⟨(St.dJ r).toArray⟩
theorem I9(t:List UInt8)(w:World)(ht:t.length<=4611686018427387904):Calls Tryz.prog 201 #[Yq ⟨t.toArray⟩] w λe w'=>e=.returned (Yq ⟨(St.ck t).toArray⟩)/\ac w w':=by
 have x9:(⟨t.toArray⟩:ByteArray).size=t.length:=by show t.toArray.size=_;simp
 cases t with
 | nil=>
  go_enter Tryz.func201,Tryz.ntmps201;go_wp2;go_ret;exact⟨rfl,uZ⟩
 | cons c r=>
  have hne:((⟨(c :: r).toArray⟩:ByteArray).toList==[])=false:=by rw[Lib.toList_data];rfl
  have Vf:((⟨(c :: r).toArray⟩:ByteArray).toList != [])=true:=by rw[Lib.toList_data];rfl
  have z0:(0:Int)<((c :: r).length:Int):=by simp<;>omega
  have GZ:(0:Int)<((⟨(c :: r).toArray⟩:ByteArray).size:Int):=by rw[x9];exact z0
  have h0:0<(⟨(c :: r).toArray⟩:ByteArray).size:=by omega
  have bS:(⟨(c :: r).toArray⟩:ByteArray)[0]=c:=by show(c :: r).toArray[0]=c;simp
  have hrl:r.length+1<=4611686018427387904:=by simpa using ht
  have hex:(⟨(c :: r).toArray⟩:ByteArray).extract 1 (c :: r).length=⟨r.toArray⟩:=tP _ _ (by rw[Lib.extract_data];simp[List.take_of_length_le]);have hsz:(c :: r).length=r.length+1:=by simp
  generalize hb:(⟨(c :: r).toArray⟩:ByteArray)=b at *
  by_cases q:c.toNat=32
  ·have p1:((b[0].toNat:Int)==32)=true:=by rw[bS];simp;omega
   have hr:=aa (show St.ck (c :: r)=[92,115]++r by simp only[St.ck,if_pos q]);have z1:(1:Int)<=(b.size:Int):=by omega
   rw[<-x9]at hex;have y1:¬9223372036854775807<2+r.length:=by omega
   clear bS q hsz;go_enter Tryz.func201,Tryz.ntmps201;go_wp2;go_ret;refine⟨gz ?_,uZ⟩;rw[hr.out];have hbl:b.1.1=c :: r:=by rw[<-hb]
   apply ByteArray.ext;simp[hbl,List.take_of_length_le]
  have p1:((b[0].toNat:Int)==32)=false:=by rw[bS];simp;omega
  have hr:=aa (show St.ck (c :: r)=c :: r by simp only[St.ck,if_neg q]);clear bS q hsz hex;go_enter Tryz.func201,Tryz.ntmps201;go_wp2;go_ret;refine⟨gz ?_,uZ⟩;rw[hr.out,hb]
def Us(B g:Nat)(t:List UInt8):List ef:=[
 λv W=>∃b,v=.slice (Yz ⟨b,0,Yy⟩) 3 3/\B<=b/\b<W.1.size/\∀r,r<3->W.cell? ⟨b,r,Yy⟩=Yz (Yq (j7 r)),
 λv _=>v=Yt (Yz ⟨g,0,Yy⟩),
 λv _=>∃r:Nat,r<3/\v=Yp .i64 r,
 λv W=>∃b r:Nat,r<3/\B<=b/\b<W.1.size/\v=Yt (Yz ⟨b,r,Yy⟩)/\W.cell? ⟨b,r,Yy⟩=Yz (Yq (j7 r)),
 λv _=>∃r:Nat,r<3/\v=Yq (j7 r),
 λv _=>∃r:Nat,r<3/\v=Yq ((⟨#[92,10]⟩:ByteArray)++j7 r),
 λv _=>v=Yq ⟨t.toArray⟩,
 λv _=>v=Yq ⟨(St.ck t).toArray⟩,
 λv _=>∃r:Nat,r<3/\v=Yq ((⟨#[92,10]⟩:ByteArray)++j7 r++⟨(St.ck t).toArray⟩),
 λv _=>∃r:Nat,r<3/\v=Yq ((⟨#[92,10]⟩:ByteArray)++j7 r++⟨(St.ck t).toArray⟩)]
theorem yF(t:List UInt8):(St.ck t).length<=t.length+1:=by
 cases t with
 | nil=>simp[St.ck]
 | cons c r=>simp only[St.ck];split<;>simp
theorem AC(r:Nat):(j7 r).size<=2:=by unfold j7 St.dJ;split;decide;split<;>decide
theorem oz{P:Program}{ops:Array Oper}{o:Oper}{a:Act}{w:World}{K:Act->World->Prop}{Q:Exit->Act->World->Prop}{E:Prop}
  (hg:o.guard=Yy) (f:FuncId) (args:Array Value) (Po:Ending->World->Prop) (hc:Calls P f args w Po)
  (hrun:(execOp a.eval o).run P w=.ok (.enter f args) w) (hK:∀e w',Po e w'->∃v,e=.returned v/\K (a.put o.dst v) w') :
  if Region.wanted o (yielded ops a.tmps)=true then Oper.wp P o a w K Q else E:=by
 have hw:Region.wanted o (yielded ops a.tmps)=true:=by simp[Region.wanted,hg]
 rw[if_pos hw];unfold Oper.wp;rw[hrun];refine hc.mono ?_;intro e w' hp;obtain⟨v,rfl,hk⟩:=hK e w' hp;exact hk
theorem IL(B g P:Nat)(k:Int)(x:List UInt8)(i:Int)(t:List UInt8)(w:World)(hG:bp w B g P)(hP:P<=1000000)(ht:t.length<=1000000)(hx:¬(k=1/\x=[32])) :
  Calls Tryz.prog 175 #[Yt (Yz ⟨g,0,Yy⟩),Yp .i64 2,.agg #[Yp .i64 k,Yq ⟨x.toArray⟩,Yp .i64 i],Yq ⟨t.toArray⟩] w λe w'=>∃r:Nat,r<3/\e=.returned (Yq ⟨([92,10]++St.dJ r++St.ck t).toArray⟩)/\bp w' B g (P+1)/\w.grownBy w' (Yz g):=by
 have HG:=aa hG;obtain⟨kg,hB⟩:=hG.lt;have dj:=jV ⟨x.toArray⟩ [32];have hxl:((⟨x.toArray⟩:ByteArray).1.1)=x:=by simp
 rw[hxl]at dj;clear hxl
 by_cases h1:x=[32]
 case' pos=>
  have h2:¬k=1:=λe=>hx ⟨e,h1⟩
  subst h1;have q2:(k==1)=false:=by simpa using h2
  clear hx hG dj h2
 case' neg=>
  have q1:(x==[32])=false:=by simpa using h1
  rw[decide_eq_false h1]at dj;clear hx hG
 all_goals
  go_enter Tryz.func175,Tryz.ntmps175;go_wp2_with fail;refine bZ (λa b=>a.grownBy b (Yz g)) (λL W=>bp W B g (if L 2 then P+1 else P)) (Us B g t) (λa=>bC a _) (λa b c h k=>aN h k (λ_ e=>.inl e)) (by kernel_rfl) (by rfl) (by kernel_rfl) (by kernel_rfl) ?_ ?_ ?_ ?_ ?_;rotate_left 1
  ·intro ρ;simp only[cf,Act.put,ax,aw,ay,Nat.zero_add,Nat.reduceAdd];exact rfl
  ·exact HG.out.ai ((ac.refl _).alloc _).drew
  ·unfold Us;refine aq.cons (λρ L W hR hI hL hD hO hF K hK=>?_) ?_
   ·have ez:g<W.1.size:=Nat.lt_of_lt_of_le hI.lt.1 hI.lt.2;have fs:=hI.lt.2;clear hF hD hO;simp only[Act.put,ax,aw,ay]at hK |-;go_simp;refine hK _ _ (((ac.refl W).alloc _).gb _) (by simpa[ar]using hI.ai ((ac.refl W).alloc _)) (λW2 h2=>⟨W.1.size,rfl,fs,by have:=h2.size;simp at this;omega,λr hr=>?_⟩);rw[dD h2 (p:=⟨W.1.size,r,Yy⟩) (by simp) (by simp;omega),World.cell?_alloc_at _ _ _ _ rfl];rcases(show r=0\/r=1\/r=2 by omega)with h|h|h<;>subst h<;>rfl
   refine aq.cons (λρ L W hR hI hL hD hO hF K hK=>?_) ?_
   ·have ez:g<W.1.size:=Nat.lt_of_lt_of_le hI.lt.1 hI.lt.2;have fs:=hI.lt.2;clear hF hD hO;simp only[Act.put,ax,aw,ay]at hK |-;go_simp;refine hK _ _ (bC _ _) (by simpa[ar]using hI) (λW2 h2=>?_);rfl
   refine aq.cons (λρ L W hR hI hL hD hO hF K hK=>?_) ?_
   ·have ez:g<W.1.size:=Nat.lt_of_lt_of_le hI.lt.1 hI.lt.2;have fs:=hI.lt.2;have f1:=ag hF (j:=1) (by decide);clear hF hD hO;simp only[Act.put,ax,aw,ay]at hK |-;have e1:ρ 1=Yt (Yz ⟨g,0,Yy⟩):=f1;rw[e1]at hK |-;have dp:bp W B g P:=by simpa[hL]using hI
    refine oz (o:=⟨Yz 53,_,_,_,_,_⟩) rfl 64 #[Yt (Yz ⟨g,0,Yy⟩),Yp .i64 3] _ (bW B g P 3 W dp (by omega) (by omega) (by omega)) ?_ ?_
    ·go_simp
    rintro e W2 ⟨r,rfl,hr,hG2,hk⟩;exact⟨_,rfl,hK _ _ hk (by simpa[ar]using hG2) (λW3 h3=>⟨r,by omega,rfl⟩)⟩
   refine aq.cons (λρ L W hR hI hL hD hO hF K hK=>?_) ?_
   ·have ez:g<W.1.size:=Nat.lt_of_lt_of_le hI.lt.1 hI.lt.2;have fs:=hI.lt.2;have f0:=ag hF (j:=0) (by decide);have f2:=ag hF (j:=2) (by decide);clear hF hD hO;simp only[Act.put,ax,aw,ay]at hK |-;obtain⟨b,e0,hb1,hb2,hc⟩:=f0;obtain⟨r,hr,e2⟩:=f2;rw[e0,e2]at hK |-;have z1:(r:Int)<3:=by omega
    go_simp;refine hK _ _ (bC _ _) (by simpa[ar]using hI) (λW2 h2=>?_);have hc2:=(dD h2 (p:=⟨b,r,Yy⟩) hb2 (by simp;omega)).trans (hc r hr);exact⟨b,r,hr,hb1,Nat.lt_of_lt_of_le hb2 h2.size,rfl,hc2⟩
   refine aq.cons (λρ L W hR hI hL hD hO hF K hK=>?_) ?_
   ·have ez:g<W.1.size:=Nat.lt_of_lt_of_le hI.lt.1 hI.lt.2;have fs:=hI.lt.2;have f3:=ag hF (j:=3) (by decide);clear hF hD hO;simp only[Act.put,ax,aw,ay]at hK |-;obtain⟨b,r,hr,hb1,hb2,e3,hc⟩:=f3;rw[e3]at hK |-;go_simp;refine hK _ _ (bC _ _) (by simpa[ar]using hI) (λW2 h2=>?_);exact⟨r,hr,rfl⟩
   refine aq.cons (λρ L W hR hI hL hD hO hF K hK=>?_) ?_
   ·have ez:g<W.1.size:=Nat.lt_of_lt_of_le hI.lt.1 hI.lt.2;have fs:=hI.lt.2;have f4:=ag hF (j:=4) (by decide);clear hF hD hO;simp only[Act.put,ax,aw,ay]at hK |-;obtain⟨r,hr,e4⟩:=f4;rw[e4]at hK |-;have hbl:=AC r;have y1:¬9223372036854775807<2+(j7 r).size:=by omega
    go_simp;refine hK _ _ (bC _ _) (by simpa[ar]using hI) (λW2 h2=>?_);exact⟨r,hr,rfl⟩
   refine aq.cons (λρ L W hR hI hL hD hO hF K hK=>?_) ?_
   ·have ez:g<W.1.size:=Nat.lt_of_lt_of_le hI.lt.1 hI.lt.2;have fs:=hI.lt.2;clear hF hD hO;simp only[Act.put,ax,aw,ay]at hK |-;go_simp;refine hK _ _ (bC _ _) (by simpa[ar]using hI) (λW2 h2=>?_);rfl
   refine aq.cons (λρ L W hR hI hL hD hO hF K hK=>?_) ?_
   ·have ez:g<W.1.size:=Nat.lt_of_lt_of_le hI.lt.1 hI.lt.2;have fs:=hI.lt.2;have f6:=ag hF (j:=6) (by decide);clear hF hD hO;simp only[Act.put,ax,aw,ay]at hK |-;have e6:ρ 6=Yq ⟨t.toArray⟩:=f6;rw[e6]at hK |-;refine oz (o:=⟨Yz 58,_,_,_,_,_⟩) rfl 201 #[Yq ⟨t.toArray⟩] _ (I9 t W (by omega)) ?_ ?_
    ·go_simp
    rintro e W2 ⟨rfl,hu⟩;exact⟨_,rfl,hK _ _ (hu.gb _) (by simpa[ar]using hI.ai hu) (λW3 h3=>rfl)⟩
   refine aq.cons (λρ L W hR hI hL hD hO hF K hK=>?_) ?_
   ·have ez:g<W.1.size:=Nat.lt_of_lt_of_le hI.lt.1 hI.lt.2;have fs:=hI.lt.2;have f5:=ag hF (j:=5) (by decide);have f7:=ag hF (j:=7) (by decide);clear hF hD hO;simp only[Act.put,ax,aw,ay]at hK |-;obtain⟨r,hr,e5⟩:=f5;have e7:ρ 7=Yq ⟨(St.ck t).toArray⟩:=f7;rw[e5,e7]at hK |-;have hbl:=AC r;have hsl:=yF t;have y1:¬9223372036854775807<2+(j7 r).size+(St.ck t).length:=by omega
    go_simp;refine hK _ _ (bC _ _) (by simpa[ar]using hI) (λW2 h2=>⟨r,hr,rfl⟩)
   refine aq.cons (λρ L W hR hI hL hD hO hF K hK=>?_) ?_
   ·have ez:g<W.1.size:=Nat.lt_of_lt_of_le hI.lt.1 hI.lt.2;have fs:=hI.lt.2;have f8:=ag hF (j:=8) (by decide);clear hF hD hO;simp only[Act.put,ax,aw,ay]at hK |-;obtain⟨r,hr,e8⟩:=f8;rw[e8]at hK |-;go_simp;refine hK _ _ (bC _ _) (by simpa[ar]using hI) (λW2 h2=>?_);exact⟨r,hr,rfl⟩
   exact aq.nil
  intro ρ L W hR hI hL hF;obtain⟨_,_,_,_,_,_,_,_,_,⟨r,hr,e9⟩,_⟩:=hF;have hL2:=hL 2 (by decide);simp only[hL2,if_true]at hI;have hgb:w.grownBy W (Yz g):=aN ((((ac.refl w).alloc _).drew).gb _) hR (λ_ e=>.inl e);have HE:=aa (And.intro hI hgb);rw[e9];clear hI hgb hR hL e9;go_wp2;go_ret;refine⟨r,hr,gz ?_,HE.out.1,HE.out.2⟩;apply ByteArray.ext;simp[j7]
end
section
theorem Bp{w w':World}{A:Option Addr}{f:List St.It}{g:Nat}(h:aJ w A f)(k:w.grownBy w' (Yz g))(hne:∀b off,A=Yz ⟨b,off,Yy⟩->b≠g):aJ w' A f:=by
 intro h0;obtain⟨b,off,rfl,hb,hc⟩:=h h0;refine⟨b,off,rfl,Nat.lt_of_lt_of_le hb k.size,λj hj=>?_⟩;obtain⟨c0,c1,c2⟩:=hc j hj;have hn:=hne b off rfl;exact⟨(dD k (p:=⟨b,_,Yy⟩) hb (by simpa using hn)).trans c0,(dD k (p:=⟨b,_,Yy⟩) hb (by simpa using hn)).trans c1,(dD k (p:=⟨b,_,Yy⟩) hb (by simpa using hn)).trans c2⟩
end
section
theorem qz(n:Nat)(w:World)(hn:n<=4611686018427387904):Calls Tryz.prog 134 #[Yp .i64 n] w λe w'=>e=.returned (Yq ⟨(Lib.decDigits n).toArray⟩)/\ac w w':=by
 have h0:¬(n:Int)<0:=by omega
 go_enter Tryz.func134,Tryz.ntmps134;go_wp2_with (go_at_call 176;refine(qG n _ hn).mono ?_;rintro e w' ⟨rfl,X,rfl⟩);go_ret;exact⟨rfl,uZ⟩
theorem JW{i:Nat}(h:i<10):(⟨(Lib.decDigits i).toArray⟩:ByteArray).size=1:=by
 rw[Lib.decDigits_one h];rfl
end
section
def jz(au:Nat):List UInt8:=if au=0 then[]else if au=1 then[55,44]else[120,44]
def iM(au:Nat):List UInt8:=if au=0 then[]else if au=1 then[]else[44,34,121,34]
def Vv(au:Nat):ByteArray:=⟨(jz au).toArray⟩
def To(au:Nat):ByteArray:=⟨(iM au).toArray⟩
end
section
end
