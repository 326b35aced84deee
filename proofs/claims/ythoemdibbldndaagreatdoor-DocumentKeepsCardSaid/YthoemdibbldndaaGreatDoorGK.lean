/- The contracts of the makers shield and longer. -/
import Derived.Test.YthoemdibbldndaaGreatDoorGL
import Derived.Test.YthoemdibbldndaaGreatDoorRefEnc
import Derived.Test.YthoemdibbldndaaGreatDoorRefSlice
import Derived.Test.YthoemdibbldndaaGreatDoorDcB
set_option linter.all false
set_option maxHeartbeats 0
set_option maxRecDepth 20000
open Go.Value renaming int->Yh,string->Yi,pointer->Yl
open Option renaming none->Yq,some->Yr
namespace Go.Proofs.YthoemdibbldndaaGreatDoor
open Go.RowKit
section
namespace St
def cf:List UInt8->List UInt8
 | c :: r=>if c.toNat=32 then[92,115]++r else c :: r
 | []=>[]
def dK(r:Nat):List UInt8:=if r=0 then[]else if r=1 then[32]else[9,32]
def jU(fmt:Int)(p:It)(b:List UInt8):Prop:=
 b=aK fmt p\/(fmt=1/\p.1=1/\((p.2.1=[62]/\b=[38,103,116,59])\/(p.2.1=[125]/\b=[38,114,98,59])))\/
  (fmt=2/\((p.1=1/\p.2.1=[32]/\b=[92,115])\/(∃r,r<3/\b=[92,10]++dK r++cf (aK 2 p))))
end St
def j3(r:Nat):ByteArray:=⟨(St.dK r).toArray⟩
theorem Ip(t:List UInt8)(w:World)(ht:t.length<=4611686018427387904):Calls Tryz.prog 201 #[Yi ⟨t.toArray⟩] w λe w'=>e=.returned (Yi ⟨(St.cf t).toArray⟩)/\ac w w':=by
 have xC:(⟨t.toArray⟩:ByteArray).size=t.length:=by show t.toArray.size=_;simp
 cases t with
 | nil=>
  go_enter Tryz.func201,Tryz.ntmps201;go_wp2;go_ret;exact⟨rfl,uZ⟩
 | cons c r=>
  have hne:((⟨(c :: r).toArray⟩:ByteArray).toList==[])=false:=by rw[Lib.toList_data];rfl
  have U5:((⟨(c :: r).toArray⟩:ByteArray).toList != [])=true:=by rw[Lib.toList_data];rfl
  have z0:(0:Int)<((c :: r).length:Int):=by simp<;>omega
  have Gb:(0:Int)<((⟨(c :: r).toArray⟩:ByteArray).size:Int):=by rw[xC];exact z0
  have h0:0<(⟨(c :: r).toArray⟩:ByteArray).size:=by omega
  have bP:(⟨(c :: r).toArray⟩:ByteArray)[0]=c:=by show(c :: r).toArray[0]=c;simp
  have hrl:r.length+1<=4611686018427387904:=by simpa using ht
  have hex:(⟨(c :: r).toArray⟩:ByteArray).extract 1 (c :: r).length=⟨r.toArray⟩:=tm _ _ (by rw[Lib.extract_data];simp[List.take_of_length_le]);have hsz:(c :: r).length=r.length+1:=by simp
  generalize hb:(⟨(c :: r).toArray⟩:ByteArray)=b at *
  by_cases q:c.toNat=32
  ·have p1:((b[0].toNat:Int)==32)=true:=by rw[bP];simp;omega
   have hr:=aa (show St.cf (c :: r)=[92,115]++r by simp only[St.cf,if_pos q]);have z1:(1:Int)<=(b.size:Int):=by omega
   rw[<-xC]at hex;have y1:¬9223372036854775807<2+r.length:=by omega
   clear bP q hsz;go_enter Tryz.func201,Tryz.ntmps201;go_wp2;go_ret;refine⟨gv ?_,uZ⟩;rw[hr.out];have hbl:b.1.1=c :: r:=by rw[<-hb]
   apply ByteArray.ext;simp[hbl,List.take_of_length_le]
  have p1:((b[0].toNat:Int)==32)=false:=by rw[bP];simp;omega
  have hr:=aa (show St.cf (c :: r)=c :: r by simp only[St.cf,if_neg q]);clear bP q hsz hex;go_enter Tryz.func201,Tryz.ntmps201;go_wp2;go_ret;refine⟨gv ?_,uZ⟩;rw[hr.out,hb]
def Ug(B g:Nat)(t:List UInt8):List ea:=[
 λv W=>∃b,v=.slice (Yr ⟨b,0,Yq⟩) 3 3/\B<=b/\b<W.1.size/\∀r,r<3->W.cell? ⟨b,r,Yq⟩=Yr (Yi (j3 r)),
 λv _=>v=Yl (Yr ⟨g,0,Yq⟩),
 λv _=>∃r:Nat,r<3/\v=Yh .i64 r,
 λv W=>∃b r:Nat,r<3/\B<=b/\b<W.1.size/\v=Yl (Yr ⟨b,r,Yq⟩)/\W.cell? ⟨b,r,Yq⟩=Yr (Yi (j3 r)),
 λv _=>∃r:Nat,r<3/\v=Yi (j3 r),
 λv _=>∃r:Nat,r<3/\v=Yi ((⟨#[92,10]⟩:ByteArray)++j3 r),
 λv _=>v=Yi ⟨t.toArray⟩,
 λv _=>v=Yi ⟨(St.cf t).toArray⟩,
 λv _=>∃r:Nat,r<3/\v=Yi ((⟨#[92,10]⟩:ByteArray)++j3 r++⟨(St.cf t).toArray⟩),
 λv _=>∃r:Nat,r<3/\v=Yi ((⟨#[92,10]⟩:ByteArray)++j3 r++⟨(St.cf t).toArray⟩)]
theorem x6(t:List UInt8):(St.cf t).length<=t.length+1:=by
 cases t with
 | nil=>simp[St.cf]
 | cons c r=>simp only[St.cf];split<;>simp
theorem zH(r:Nat):(j3 r).size<=2:=by unfold j3 St.dK;split;decide;split<;>decide
theorem oo{P:Program}{ops:Array Oper}{o:Oper}{a:Act}{w:World}{K:Act->World->Prop}{Q:Exit->Act->World->Prop}{E:Prop}
  (hg:o.guard=Yq) (f:FuncId) (args:Array Value) (Po:Ending->World->Prop) (hc:Calls P f args w Po)
  (hrun:(execOp a.eval o).run P w=.ok (.enter f args) w) (hK:∀e w',Po e w'->∃v,e=.returned v/\K (a.put o.dst v) w') :
  if Region.wanted o (yielded ops a.tmps)=true then Oper.wp P o a w K Q else E:=by
 have hw:Region.wanted o (yielded ops a.tmps)=true:=by simp[Region.wanted,hg]
 rw[if_pos hw];unfold Oper.wp;rw[hrun];refine hc.mono ?_;intro e w' hp;obtain⟨v,rfl,hk⟩:=hK e w' hp;exact hk
theorem Hu(B g P:Nat)(k:Int)(x:List UInt8)(i:Int)(t:List UInt8)(w:World)(hG:bp w B g P)(hP:P<=1000000)(ht:t.length<=1000000)(hx:¬(k=1/\x=[32])) :
  Calls Tryz.prog 175 #[Yl (Yr ⟨g,0,Yq⟩),Yh .i64 2,.agg #[Yh .i64 k,Yi ⟨x.toArray⟩,Yh .i64 i],Yi ⟨t.toArray⟩] w λe w'=>∃r:Nat,r<3/\e=.returned (Yi ⟨([92,10]++St.dK r++St.cf t).toArray⟩)/\bp w' B g (P+1)/\w.grownBy w' (Yr g):=by
 have HG:=aa hG;obtain⟨ka,hB⟩:=hG.lt;have cZ:=jR ⟨x.toArray⟩ [32];have hxl:((⟨x.toArray⟩:ByteArray).1.1)=x:=by simp
 rw[hxl]at cZ;clear hxl
 by_cases h1:x=[32]
 case' pos=>
  have h2:¬k=1:=λe=>hx ⟨e,h1⟩
  subst h1;have q2:(k==1)=false:=by simpa using h2
  clear hx hG cZ h2
 case' neg=>
  have q1:(x==[32])=false:=by simpa using h1
  rw[decide_eq_false h1]at cZ;clear hx hG
 all_goals
  go_enter Tryz.func175,Tryz.ntmps175;go_wp2_with fail;refine bU (λa b=>a.grownBy b (Yr g)) (λL W=>bp W B g (if L 2 then P+1 else P)) (Ug B g t) (λa=>bA a _) (λa b c h k=>aO h k (λ_ e=>.inl e)) (by kernel_rfl) (by rfl) (by kernel_rfl) (by kernel_rfl) ?_ ?_ ?_ ?_ ?_;rotate_left 1
  ·intro ρ;simp only[bZ,Act.put,ax,aw,ay,Nat.zero_add,Nat.reduceAdd];exact rfl
  ·exact HG.out.ai ((ac.refl _).alloc _).drew
  ·unfold Ug;refine aq.cons (λρ L W hR hI hL hD hO hF K hK=>?_) ?_
   ·have ew:g<W.1.size:=Nat.lt_of_lt_of_le hI.lt.1 hI.lt.2;have fk:=hI.lt.2;clear hF hD hO;simp only[Act.put,ax,aw,ay]at hK |-;go_simp;refine hK _ _ (((ac.refl W).alloc _).gb _) (by simpa[ar]using hI.ai ((ac.refl W).alloc _)) (λW2 h2=>⟨W.1.size,rfl,fk,by have:=h2.size;simp at this;omega,λr hr=>?_⟩);rw[dA h2 (p:=⟨W.1.size,r,Yq⟩) (by simp) (by simp;omega),World.cell?_alloc_at _ _ _ _ rfl];rcases(show r=0\/r=1\/r=2 by omega)with h|h|h<;>subst h<;>rfl
   refine aq.cons (λρ L W hR hI hL hD hO hF K hK=>?_) ?_
   ·have ew:g<W.1.size:=Nat.lt_of_lt_of_le hI.lt.1 hI.lt.2;have fk:=hI.lt.2;clear hF hD hO;simp only[Act.put,ax,aw,ay]at hK |-;go_simp;refine hK _ _ (bA _ _) (by simpa[ar]using hI) (λW2 h2=>?_);rfl
   refine aq.cons (λρ L W hR hI hL hD hO hF K hK=>?_) ?_
   ·have ew:g<W.1.size:=Nat.lt_of_lt_of_le hI.lt.1 hI.lt.2;have fk:=hI.lt.2;have f1:=ag hF (j:=1) (by decide);clear hF hD hO;simp only[Act.put,ax,aw,ay]at hK |-;have e1:ρ 1=Yl (Yr ⟨g,0,Yq⟩):=f1;rw[e1]at hK |-;have dp:bp W B g P:=by simpa[hL]using hI
    refine oo (o:=⟨Yr 53,_,_,_,_,_⟩) rfl 64 #[Yl (Yr ⟨g,0,Yq⟩),Yh .i64 3] _ (bR B g P 3 W dp (by omega) (by omega) (by omega)) ?_ ?_
    ·go_simp
    rintro e W2 ⟨r,rfl,hr,hG2,hk⟩;exact⟨_,rfl,hK _ _ hk (by simpa[ar]using hG2) (λW3 h3=>⟨r,by omega,rfl⟩)⟩
   refine aq.cons (λρ L W hR hI hL hD hO hF K hK=>?_) ?_
   ·have ew:g<W.1.size:=Nat.lt_of_lt_of_le hI.lt.1 hI.lt.2;have fk:=hI.lt.2;have f0:=ag hF (j:=0) (by decide);have f2:=ag hF (j:=2) (by decide);clear hF hD hO;simp only[Act.put,ax,aw,ay]at hK |-;obtain⟨b,e0,hb1,hb2,hc⟩:=f0;obtain⟨r,hr,e2⟩:=f2;rw[e0,e2]at hK |-;have z1:(r:Int)<3:=by omega
    go_simp;refine hK _ _ (bA _ _) (by simpa[ar]using hI) (λW2 h2=>?_);have hc2:=(dA h2 (p:=⟨b,r,Yq⟩) hb2 (by simp;omega)).trans (hc r hr);exact⟨b,r,hr,hb1,Nat.lt_of_lt_of_le hb2 h2.size,rfl,hc2⟩
   refine aq.cons (λρ L W hR hI hL hD hO hF K hK=>?_) ?_
   ·have ew:g<W.1.size:=Nat.lt_of_lt_of_le hI.lt.1 hI.lt.2;have fk:=hI.lt.2;have f3:=ag hF (j:=3) (by decide);clear hF hD hO;simp only[Act.put,ax,aw,ay]at hK |-;obtain⟨b,r,hr,hb1,hb2,e3,hc⟩:=f3;rw[e3]at hK |-;go_simp;refine hK _ _ (bA _ _) (by simpa[ar]using hI) (λW2 h2=>?_);exact⟨r,hr,rfl⟩
   refine aq.cons (λρ L W hR hI hL hD hO hF K hK=>?_) ?_
   ·have ew:g<W.1.size:=Nat.lt_of_lt_of_le hI.lt.1 hI.lt.2;have fk:=hI.lt.2;have f4:=ag hF (j:=4) (by decide);clear hF hD hO;simp only[Act.put,ax,aw,ay]at hK |-;obtain⟨r,hr,e4⟩:=f4;rw[e4]at hK |-;have hbl:=zH r;have y1:¬9223372036854775807<2+(j3 r).size:=by omega
    go_simp;refine hK _ _ (bA _ _) (by simpa[ar]using hI) (λW2 h2=>?_);exact⟨r,hr,rfl⟩
   refine aq.cons (λρ L W hR hI hL hD hO hF K hK=>?_) ?_
   ·have ew:g<W.1.size:=Nat.lt_of_lt_of_le hI.lt.1 hI.lt.2;have fk:=hI.lt.2;clear hF hD hO;simp only[Act.put,ax,aw,ay]at hK |-;go_simp;refine hK _ _ (bA _ _) (by simpa[ar]using hI) (λW2 h2=>?_);rfl
   refine aq.cons (λρ L W hR hI hL hD hO hF K hK=>?_) ?_
   ·have ew:g<W.1.size:=Nat.lt_of_lt_of_le hI.lt.1 hI.lt.2;have fk:=hI.lt.2;have f6:=ag hF (j:=6) (by decide);clear hF hD hO;simp only[Act.put,ax,aw,ay]at hK |-;have e6:ρ 6=Yi ⟨t.toArray⟩:=f6;rw[e6]at hK |-;refine oo (o:=⟨Yr 58,_,_,_,_,_⟩) rfl 201 #[Yi ⟨t.toArray⟩] _ (Ip t W (by omega)) ?_ ?_
    ·go_simp
    rintro e W2 ⟨rfl,hu⟩;exact⟨_,rfl,hK _ _ (hu.gb _) (by simpa[ar]using hI.ai hu) (λW3 h3=>rfl)⟩
   refine aq.cons (λρ L W hR hI hL hD hO hF K hK=>?_) ?_
   ·have ew:g<W.1.size:=Nat.lt_of_lt_of_le hI.lt.1 hI.lt.2;have fk:=hI.lt.2;have f5:=ag hF (j:=5) (by decide);have f7:=ag hF (j:=7) (by decide);clear hF hD hO;simp only[Act.put,ax,aw,ay]at hK |-;obtain⟨r,hr,e5⟩:=f5;have e7:ρ 7=Yi ⟨(St.cf t).toArray⟩:=f7;rw[e5,e7]at hK |-;have hbl:=zH r;have hsl:=x6 t;have y1:¬9223372036854775807<2+(j3 r).size+(St.cf t).length:=by omega
    go_simp;refine hK _ _ (bA _ _) (by simpa[ar]using hI) (λW2 h2=>⟨r,hr,rfl⟩)
   refine aq.cons (λρ L W hR hI hL hD hO hF K hK=>?_) ?_
   ·have ew:g<W.1.size:=Nat.lt_of_lt_of_le hI.lt.1 hI.lt.2;have fk:=hI.lt.2;have f8:=ag hF (j:=8) (by decide);clear hF hD hO;simp only[Act.put,ax,aw,ay]at hK |-;obtain⟨r,hr,e8⟩:=f8;rw[e8]at hK |-;go_simp;refine hK _ _ (bA _ _) (by simpa[ar]using hI) (λW2 h2=>?_);exact⟨r,hr,rfl⟩
   exact aq.nil
  intro ρ L W hR hI hL hF;obtain⟨_,_,_,_,_,_,_,_,_,⟨r,hr,e9⟩,_⟩:=hF;have hL2:=hL 2 (by decide);simp only[hL2,if_true]at hI;have hgb:w.grownBy W (Yr g):=aO ((((ac.refl w).alloc _).drew).gb _) hR (λ_ e=>.inl e);have HE:=aa (And.intro hI hgb);rw[e9];clear hI hgb hR hL e9;go_wp2;go_ret;refine⟨r,hr,gv ?_,HE.out.1,HE.out.2⟩;apply ByteArray.ext;simp[j3]
end
section
theorem Az{w w':World}{A:Option Addr}{f:List St.It}{g:Nat}(h:aH w A f)(k:w.grownBy w' (Yr g))(hne:∀b off,A=Yr ⟨b,off,Yq⟩->b≠g):aH w' A f:=by
 intro h0;obtain⟨b,off,rfl,hb,hc⟩:=h h0;refine⟨b,off,rfl,Nat.lt_of_lt_of_le hb k.size,λj hj=>?_⟩;obtain⟨c0,c1,c2⟩:=hc j hj;have hn:=hne b off rfl;exact⟨(dA k (p:=⟨b,_,Yq⟩) hb (by simpa using hn)).trans c0,(dA k (p:=⟨b,_,Yq⟩) hb (by simpa using hn)).trans c1,(dA k (p:=⟨b,_,Yq⟩) hb (by simpa using hn)).trans c2⟩
end
section
theorem ql(n:Nat)(w:World)(hn:n<=4611686018427387904):Calls Tryz.prog 134 #[Yh .i64 n] w λe w'=>e=.returned (Yi ⟨(Lib.decDigits n).toArray⟩)/\ac w w':=by
 have h0:¬(n:Int)<0:=by omega
 go_enter Tryz.func134,Tryz.ntmps134;go_wp2_with (go_at_call 176;refine(qw n _ hn).mono ?_;rintro e w' ⟨rfl,X,rfl⟩);go_ret;exact⟨rfl,uZ⟩
theorem Je{i:Nat}(h:i<10):(⟨(Lib.decDigits i).toArray⟩:ByteArray).size=1:=by
 rw[Lib.decDigits_one h];rfl
end
section
def ju(au:Nat):List UInt8:=if au=0 then[]else if au=1 then[55,44]else[120,44]
def iG(au:Nat):List UInt8:=if au=0 then[]else if au=1 then[]else[44,34,121,34]
def Vl(au:Nat):ByteArray:=⟨(ju au).toArray⟩
def S5(au:Nat):ByteArray:=⟨(iG au).toArray⟩
end
section
end
