/- The contracts of the makers shield and longer. -/
import Derived.Test.YthoemdibbldndaaGreatDoorGL
import Derived.Test.YthoemdibbldndaaGreatDoorRefEnc
import Derived.Test.YthoemdibbldndaaGreatDoorRefSlice
import Derived.Test.YthoemdibbldndaaGreatDoorDcB
set_option linter.all false
set_option maxHeartbeats 0
set_option maxRecDepth 20000
open Go.Value renaming int->UM,string->UN,pointer->UQ
open Option renaming none->UW,some->UX
namespace Go.Proofs.YthoemdibbldndaaGreatDoor
open Go.RowKit
section
namespace St
def bU:List UInt8->List UInt8
 | c :: r=>if c.toNat=32 then[92,115]++r else c :: r
 | []=>[]
def dC(r:Nat):List UInt8:=if r=0 then[]else if r=1 then[32]else[9,32]
def jy(fmt:Int)(p:It)(b:List UInt8):Prop:=
 b=aH fmt p\/(fmt=1/\p.1=1/\((p.2.1=[62]/\b=[38,103,116,59])\/(p.2.1=[125]/\b=[38,114,98,59])))\/
  (fmt=2/\((p.1=1/\p.2.1=[32]/\b=[92,115])\/(∃r,r<3/\b=[92,10]++dC r++bU (aH 2 p))))
end St
def gH(r:Nat):ByteArray:=⟨(St.dC r).toArray⟩
theorem wk(t:List UInt8)(w:World)(ht:t.length<=4611686018427387904):Calls Tryz.prog 201 #[UN ⟨t.toArray⟩] w λe w'=>e=.returned (UN ⟨(St.bU t).toArray⟩)/\ac w w':=by
 have vJ:(⟨t.toArray⟩:ByteArray).size=t.length:=by show t.toArray.size=_;simp
 cases t with
 | nil=>
  go_enter Tryz.func201,Tryz.ntmps201;go_wp2;go_ret;exact⟨rfl,uZ⟩
 | cons c r=>
  have hne:((⟨(c :: r).toArray⟩:ByteArray).toList==[])=false:=by rw[Lib.toList_data];rfl
  have RP:((⟨(c :: r).toArray⟩:ByteArray).toList != [])=true:=by rw[Lib.toList_data];rfl
  have z0:(0:Int)<((c :: r).length:Int):=by simp<;>omega
  have tW:(0:Int)<((⟨(c :: r).toArray⟩:ByteArray).size:Int):=by rw[vJ];exact z0
  have h0:0<(⟨(c :: r).toArray⟩:ByteArray).size:=by omega
  have bM:(⟨(c :: r).toArray⟩:ByteArray)[0]=c:=by show(c :: r).toArray[0]=c;simp
  have hrl:r.length+1<=4611686018427387904:=by simpa using ht
  have hex:(⟨(c :: r).toArray⟩:ByteArray).extract 1 (c :: r).length=⟨r.toArray⟩:=sd _ _ (by rw[Lib.extract_data];simp[List.take_of_length_le]);have hsz:(c :: r).length=r.length+1:=by simp
  generalize hb:(⟨(c :: r).toArray⟩:ByteArray)=b at *
  by_cases q:c.toNat=32
  ·have p1:((b[0].toNat:Int)==32)=true:=by rw[bM];simp;omega
   have hr:=aa (show St.bU (c :: r)=[92,115]++r by simp only[St.bU,if_pos q]);have z1:(1:Int)<=(b.size:Int):=by omega
   rw[<-vJ]at hex;have y1:¬9223372036854775807<2+r.length:=by omega
   clear bM q hsz;go_enter Tryz.func201,Tryz.ntmps201;go_wp2;go_ret;refine⟨fQ ?_,uZ⟩;rw[hr.out];have hbl:b.1.1=c :: r:=by rw[<-hb]
   apply ByteArray.ext;simp[hbl,List.take_of_length_le]
  have p1:((b[0].toNat:Int)==32)=false:=by rw[bM];simp;omega
  have hr:=aa (show St.bU (c :: r)=c :: r by simp only[St.bU,if_neg q]);clear bM q hsz hex;go_enter Tryz.func201,Tryz.ntmps201;go_wp2;go_ret;refine⟨fQ ?_,uZ⟩;rw[hr.out,hb]
def LP(B g:Nat)(t:List UInt8):List gY:=[
 λv W=>∃b,v=.slice (UX ⟨b,0,UW⟩) 3 3/\B<=b/\b<W.1.size/\∀r,r<3->W.cell? ⟨b,r,UW⟩=UX (UN (gH r)),
 λv _=>v=UQ (UX ⟨g,0,UW⟩),
 λv _=>∃r:Nat,r<3/\v=UM .i64 r,
 λv W=>∃b r:Nat,r<3/\B<=b/\b<W.1.size/\v=UQ (UX ⟨b,r,UW⟩)/\W.cell? ⟨b,r,UW⟩=UX (UN (gH r)),
 λv _=>∃r:Nat,r<3/\v=UN (gH r),
 λv _=>∃r:Nat,r<3/\v=UN ((⟨#[92,10]⟩:ByteArray)++gH r),
 λv _=>v=UN ⟨t.toArray⟩,
 λv _=>v=UN ⟨(St.bU t).toArray⟩,
 λv _=>∃r:Nat,r<3/\v=UN ((⟨#[92,10]⟩:ByteArray)++gH r++⟨(St.bU t).toArray⟩),
 λv _=>∃r:Nat,r<3/\v=UN ((⟨#[92,10]⟩:ByteArray)++gH r++⟨(St.bU t).toArray⟩)]
theorem rz(t:List UInt8):(St.bU t).length<=t.length+1:=by
 cases t with
 | nil=>simp[St.bU]
 | cons c r=>simp only[St.bU];split<;>simp
theorem oV(r:Nat):(gH r).size<=2:=by unfold gH St.dC;split;decide;split<;>decide
theorem kg{P:Program}{ops:Array Oper}{o:Oper}{a:Act}{w:World}{K:Act->World->Prop}{Q:Exit->Act->World->Prop}{E:Prop}
  (hg:o.guard=UW) (f:FuncId) (args:Array Value) (Po:Ending->World->Prop) (hc:Calls P f args w Po)
  (hrun:(execOp a.eval o).run P w=.ok (.enter f args) w) (hK:∀e w',Po e w'->∃v,e=.returned v/\K (a.put o.dst v) w') :
  if Region.wanted o (yielded ops a.tmps)=true then Oper.wp P o a w K Q else E:=by
 have hw:Region.wanted o (yielded ops a.tmps)=true:=by simp[Region.wanted,hg]
 rw[if_pos hw];unfold Oper.wp;rw[hrun];refine hc.mono ?_;intro e w' hp;obtain⟨v,rfl,hk⟩:=hK e w' hp;exact hk
theorem Fu(B g P:Nat)(k:Int)(x:List UInt8)(i:Int)(t:List UInt8)(w:World)(hG:bK w B g P)(hP:P<=1000000)(ht:t.length<=1000000)(hx:¬(k=1/\x=[32])) :
  Calls Tryz.prog 175 #[UQ (UX ⟨g,0,UW⟩),UM .i64 2,.agg #[UM .i64 k,UN ⟨x.toArray⟩,UM .i64 i],UN ⟨t.toArray⟩] w λe w'=>∃r:Nat,r<3/\e=.returned (UN ⟨([92,10]++St.dC r++St.bU t).toArray⟩)/\bK w' B g (P+1)/\w.grownBy w' (UX g):=by
 have HG:=aa hG;obtain⟨kw,hB⟩:=hG.lt;have dL:=jw ⟨x.toArray⟩ [32];have hxl:((⟨x.toArray⟩:ByteArray).1.1)=x:=by simp
 rw[hxl]at dL;clear hxl
 by_cases h1:x=[32]
 ·have h2:¬k=1:=λe=>hx ⟨e,h1⟩
  subst h1;have q2:(k==1)=false:=by simpa using h2
  clear hx hG dL h2;go_enter Tryz.func175,Tryz.ntmps175;go_wp2_with fail;refine bz (λa b=>a.grownBy b (UX g)) (λL W=>bK W B g (if L 2 then P+1 else P)) (LP B g t) (λa=>bi a _) (λa b c h k=>aW h k (λ_ e=>.inl e)) (by kernel_rfl) (by rfl) (by kernel_rfl) (by kernel_rfl) ?fr ?hfr ?hI ?hob ?hend
  case hfr=>
   intro ρ;simp only[ch,Act.put,aq,al,ar,Nat.zero_add,Nat.reduceAdd];exact rfl
  case hI=>exact HG.out.ai ((ac.refl _).alloc _).drew
  case hob=>
   unfold LP;refine aj.cons (λρ L W hR hI hL hD hO hF K hK=>?_) ?_
   ·have ez:g<W.1.size:=Nat.lt_of_lt_of_le hI.lt.1 hI.lt.2;have dD:=hI.lt.2;clear hF hD hO;simp only[Act.put,aq,al,ar]at hK |-;go_simp;refine hK _ _ (((ac.refl W).alloc _).gb _) (by simpa[au]using hI.ai ((ac.refl W).alloc _)) (λW2 h2=>⟨W.1.size,rfl,dD,by have:=h2.size;simp at this;omega,λr hr=>?_⟩);rw[dd h2 (p:=⟨W.1.size,r,UW⟩) (by simp) (by simp;omega),World.cell?_alloc_at _ _ _ _ rfl];rcases(show r=0\/r=1\/r=2 by omega)with h|h|h<;>subst h<;>rfl
   refine aj.cons (λρ L W hR hI hL hD hO hF K hK=>?_) ?_
   ·have ez:g<W.1.size:=Nat.lt_of_lt_of_le hI.lt.1 hI.lt.2;have dD:=hI.lt.2;clear hF hD hO;simp only[Act.put,aq,al,ar]at hK |-;go_simp;refine hK _ _ (bi _ _) (by simpa[au]using hI) (λW2 h2=>?_);rfl
   refine aj.cons (λρ L W hR hI hL hD hO hF K hK=>?_) ?_
   ·have ez:g<W.1.size:=Nat.lt_of_lt_of_le hI.lt.1 hI.lt.2;have dD:=hI.lt.2;have f1:=ag hF (j:=1) (by decide);clear hF hD hO;simp only[Act.put,aq,al,ar]at hK |-;have e1:ρ 1=UQ (UX ⟨g,0,UW⟩):=f1;rw[e1]at hK |-;have G7:bK W B g P:=by simpa[hL]using hI
    refine kg (o:=⟨UX 53,_,_,_,_,_⟩) rfl 64 #[UQ (UX ⟨g,0,UW⟩),UM .i64 3] _ (cx B g P 3 W G7 (by omega) (by omega) (by omega)) ?_ ?_
    ·go_simp
    rintro e W2 ⟨r,rfl,hr,hG2,hk⟩;exact⟨_,rfl,hK _ _ hk (by simpa[au]using hG2) (λW3 h3=>⟨r,by omega,rfl⟩)⟩
   refine aj.cons (λρ L W hR hI hL hD hO hF K hK=>?_) ?_
   ·have ez:g<W.1.size:=Nat.lt_of_lt_of_le hI.lt.1 hI.lt.2;have dD:=hI.lt.2;have f0:=ag hF (j:=0) (by decide);have f2:=ag hF (j:=2) (by decide);clear hF hD hO;simp only[Act.put,aq,al,ar]at hK |-;obtain⟨b,e0,hb1,hb2,hc⟩:=f0;obtain⟨r,hr,e2⟩:=f2;rw[e0,e2]at hK |-;have z1:(r:Int)<3:=by omega
    go_simp;refine hK _ _ (bi _ _) (by simpa[au]using hI) (λW2 h2=>?_);have hc2:=(dd h2 (p:=⟨b,r,UW⟩) hb2 (by simp;omega)).trans (hc r hr);exact⟨b,r,hr,hb1,Nat.lt_of_lt_of_le hb2 h2.size,rfl,hc2⟩
   refine aj.cons (λρ L W hR hI hL hD hO hF K hK=>?_) ?_
   ·have ez:g<W.1.size:=Nat.lt_of_lt_of_le hI.lt.1 hI.lt.2;have dD:=hI.lt.2;have f3:=ag hF (j:=3) (by decide);clear hF hD hO;simp only[Act.put,aq,al,ar]at hK |-;obtain⟨b,r,hr,hb1,hb2,e3,hc⟩:=f3;rw[e3]at hK |-;go_simp;refine hK _ _ (bi _ _) (by simpa[au]using hI) (λW2 h2=>?_);exact⟨r,hr,rfl⟩
   refine aj.cons (λρ L W hR hI hL hD hO hF K hK=>?_) ?_
   ·have ez:g<W.1.size:=Nat.lt_of_lt_of_le hI.lt.1 hI.lt.2;have dD:=hI.lt.2;have f4:=ag hF (j:=4) (by decide);clear hF hD hO;simp only[Act.put,aq,al,ar]at hK |-;obtain⟨r,hr,e4⟩:=f4;rw[e4]at hK |-;have hbl:=oV r;have y1:¬9223372036854775807<2+(gH r).size:=by omega
    go_simp;refine hK _ _ (bi _ _) (by simpa[au]using hI) (λW2 h2=>?_);exact⟨r,hr,rfl⟩
   refine aj.cons (λρ L W hR hI hL hD hO hF K hK=>?_) ?_
   ·have ez:g<W.1.size:=Nat.lt_of_lt_of_le hI.lt.1 hI.lt.2;have dD:=hI.lt.2;clear hF hD hO;simp only[Act.put,aq,al,ar]at hK |-;go_simp;refine hK _ _ (bi _ _) (by simpa[au]using hI) (λW2 h2=>?_);rfl
   refine aj.cons (λρ L W hR hI hL hD hO hF K hK=>?_) ?_
   ·have ez:g<W.1.size:=Nat.lt_of_lt_of_le hI.lt.1 hI.lt.2;have dD:=hI.lt.2;have f6:=ag hF (j:=6) (by decide);clear hF hD hO;simp only[Act.put,aq,al,ar]at hK |-;have e6:ρ 6=UN ⟨t.toArray⟩:=f6;rw[e6]at hK |-;refine kg (o:=⟨UX 58,_,_,_,_,_⟩) rfl 201 #[UN ⟨t.toArray⟩] _ (wk t W (by omega)) ?_ ?_
    ·go_simp
    rintro e W2 ⟨rfl,hu⟩;exact⟨_,rfl,hK _ _ (hu.gb _) (by simpa[au]using hI.ai hu) (λW3 h3=>rfl)⟩
   refine aj.cons (λρ L W hR hI hL hD hO hF K hK=>?_) ?_
   ·have ez:g<W.1.size:=Nat.lt_of_lt_of_le hI.lt.1 hI.lt.2;have dD:=hI.lt.2;have f5:=ag hF (j:=5) (by decide);have f7:=ag hF (j:=7) (by decide);clear hF hD hO;simp only[Act.put,aq,al,ar]at hK |-;obtain⟨r,hr,e5⟩:=f5;have e7:ρ 7=UN ⟨(St.bU t).toArray⟩:=f7;rw[e5,e7]at hK |-;have hbl:=oV r;have hsl:=rz t;have y1:¬9223372036854775807<2+(gH r).size+(St.bU t).length:=by omega
    go_simp;refine hK _ _ (bi _ _) (by simpa[au]using hI) (λW2 h2=>⟨r,hr,rfl⟩)
   refine aj.cons (λρ L W hR hI hL hD hO hF K hK=>?_) ?_
   ·have ez:g<W.1.size:=Nat.lt_of_lt_of_le hI.lt.1 hI.lt.2;have dD:=hI.lt.2;have f8:=ag hF (j:=8) (by decide);clear hF hD hO;simp only[Act.put,aq,al,ar]at hK |-;obtain⟨r,hr,e8⟩:=f8;rw[e8]at hK |-;go_simp;refine hK _ _ (bi _ _) (by simpa[au]using hI) (λW2 h2=>?_);exact⟨r,hr,rfl⟩
   exact aj.nil
  case hend=>
   intro ρ L W hR hI hL hF;obtain⟨_,_,_,_,_,_,_,_,_,⟨r,hr,e9⟩,_⟩:=hF;have hL2:=hL 2 (by decide);simp only[hL2,if_true]at hI;have hgb:w.grownBy W (UX g):=aW ((((ac.refl w).alloc _).drew).gb _) hR (λ_ e=>.inl e);have HE:=aa (And.intro hI hgb);rw[e9];clear hI hgb hR hL e9;go_wp2;go_ret;refine⟨r,hr,fQ ?_,HE.out.1,HE.out.2⟩;apply ByteArray.ext;simp[gH]
 have q1:(x==[32])=false:=by simpa using h1
 rw[decide_eq_false h1]at dL;clear hx hG;go_enter Tryz.func175,Tryz.ntmps175;go_wp2_with fail;refine bz (λa b=>a.grownBy b (UX g)) (λL W=>bK W B g (if L 2 then P+1 else P)) (LP B g t) (λa=>bi a _) (λa b c h k=>aW h k (λ_ e=>.inl e)) (by kernel_rfl) (by rfl) (by kernel_rfl) (by kernel_rfl) ?frB ?hfr ?hI ?hob ?hend
 case hfr=>
  intro ρ;simp only[ch,Act.put,aq,al,ar,Nat.zero_add,Nat.reduceAdd];exact rfl
 case hI=>exact HG.out.ai ((ac.refl _).alloc _).drew
 case hob=>
  unfold LP;refine aj.cons (λρ L W hR hI hL hD hO hF K hK=>?_) ?_
  ·have ez:g<W.1.size:=Nat.lt_of_lt_of_le hI.lt.1 hI.lt.2;have dD:=hI.lt.2;clear hF hD hO;simp only[Act.put,aq,al,ar]at hK |-;go_simp;refine hK _ _ (((ac.refl W).alloc _).gb _) (by simpa[au]using hI.ai ((ac.refl W).alloc _)) (λW2 h2=>⟨W.1.size,rfl,dD,by have:=h2.size;simp at this;omega,λr hr=>?_⟩);rw[dd h2 (p:=⟨W.1.size,r,UW⟩) (by simp) (by simp;omega),World.cell?_alloc_at _ _ _ _ rfl];rcases(show r=0\/r=1\/r=2 by omega)with h|h|h<;>subst h<;>rfl
  refine aj.cons (λρ L W hR hI hL hD hO hF K hK=>?_) ?_
  ·have ez:g<W.1.size:=Nat.lt_of_lt_of_le hI.lt.1 hI.lt.2;have dD:=hI.lt.2;clear hF hD hO;simp only[Act.put,aq,al,ar]at hK |-;go_simp;refine hK _ _ (bi _ _) (by simpa[au]using hI) (λW2 h2=>?_);rfl
  refine aj.cons (λρ L W hR hI hL hD hO hF K hK=>?_) ?_
  ·have ez:g<W.1.size:=Nat.lt_of_lt_of_le hI.lt.1 hI.lt.2;have dD:=hI.lt.2;have f1:=ag hF (j:=1) (by decide);clear hF hD hO;simp only[Act.put,aq,al,ar]at hK |-;have e1:ρ 1=UQ (UX ⟨g,0,UW⟩):=f1;rw[e1]at hK |-;have G7:bK W B g P:=by simpa[hL]using hI
   refine kg (o:=⟨UX 53,_,_,_,_,_⟩) rfl 64 #[UQ (UX ⟨g,0,UW⟩),UM .i64 3] _ (cx B g P 3 W G7 (by omega) (by omega) (by omega)) ?_ ?_
   ·go_simp
   rintro e W2 ⟨r,rfl,hr,hG2,hk⟩;exact⟨_,rfl,hK _ _ hk (by simpa[au]using hG2) (λW3 h3=>⟨r,by omega,rfl⟩)⟩
  refine aj.cons (λρ L W hR hI hL hD hO hF K hK=>?_) ?_
  ·have ez:g<W.1.size:=Nat.lt_of_lt_of_le hI.lt.1 hI.lt.2;have dD:=hI.lt.2;have f0:=ag hF (j:=0) (by decide);have f2:=ag hF (j:=2) (by decide);clear hF hD hO;simp only[Act.put,aq,al,ar]at hK |-;obtain⟨b,e0,hb1,hb2,hc⟩:=f0;obtain⟨r,hr,e2⟩:=f2;rw[e0,e2]at hK |-;have z1:(r:Int)<3:=by omega
   go_simp;refine hK _ _ (bi _ _) (by simpa[au]using hI) (λW2 h2=>?_);have hc2:=(dd h2 (p:=⟨b,r,UW⟩) hb2 (by simp;omega)).trans (hc r hr);exact⟨b,r,hr,hb1,Nat.lt_of_lt_of_le hb2 h2.size,rfl,hc2⟩
  refine aj.cons (λρ L W hR hI hL hD hO hF K hK=>?_) ?_
  ·have ez:g<W.1.size:=Nat.lt_of_lt_of_le hI.lt.1 hI.lt.2;have dD:=hI.lt.2;have f3:=ag hF (j:=3) (by decide);clear hF hD hO;simp only[Act.put,aq,al,ar]at hK |-;obtain⟨b,r,hr,hb1,hb2,e3,hc⟩:=f3;rw[e3]at hK |-;go_simp;refine hK _ _ (bi _ _) (by simpa[au]using hI) (λW2 h2=>?_);exact⟨r,hr,rfl⟩
  refine aj.cons (λρ L W hR hI hL hD hO hF K hK=>?_) ?_
  ·have ez:g<W.1.size:=Nat.lt_of_lt_of_le hI.lt.1 hI.lt.2;have dD:=hI.lt.2;have f4:=ag hF (j:=4) (by decide);clear hF hD hO;simp only[Act.put,aq,al,ar]at hK |-;obtain⟨r,hr,e4⟩:=f4;rw[e4]at hK |-;have hbl:=oV r;have y1:¬9223372036854775807<2+(gH r).size:=by omega
   go_simp;refine hK _ _ (bi _ _) (by simpa[au]using hI) (λW2 h2=>?_);exact⟨r,hr,rfl⟩
  refine aj.cons (λρ L W hR hI hL hD hO hF K hK=>?_) ?_
  ·have ez:g<W.1.size:=Nat.lt_of_lt_of_le hI.lt.1 hI.lt.2;have dD:=hI.lt.2;clear hF hD hO;simp only[Act.put,aq,al,ar]at hK |-;go_simp;refine hK _ _ (bi _ _) (by simpa[au]using hI) (λW2 h2=>?_);rfl
  refine aj.cons (λρ L W hR hI hL hD hO hF K hK=>?_) ?_
  ·have ez:g<W.1.size:=Nat.lt_of_lt_of_le hI.lt.1 hI.lt.2;have dD:=hI.lt.2;have f6:=ag hF (j:=6) (by decide);clear hF hD hO;simp only[Act.put,aq,al,ar]at hK |-;have e6:ρ 6=UN ⟨t.toArray⟩:=f6;rw[e6]at hK |-;refine kg (o:=⟨UX 58,_,_,_,_,_⟩) rfl 201 #[UN ⟨t.toArray⟩] _ (wk t W (by omega)) ?_ ?_
   ·go_simp
   rintro e W2 ⟨rfl,hu⟩;exact⟨_,rfl,hK _ _ (hu.gb _) (by simpa[au]using hI.ai hu) (λW3 h3=>rfl)⟩
  refine aj.cons (λρ L W hR hI hL hD hO hF K hK=>?_) ?_
  ·have ez:g<W.1.size:=Nat.lt_of_lt_of_le hI.lt.1 hI.lt.2;have dD:=hI.lt.2;have f5:=ag hF (j:=5) (by decide);have f7:=ag hF (j:=7) (by decide);clear hF hD hO;simp only[Act.put,aq,al,ar]at hK |-;obtain⟨r,hr,e5⟩:=f5;have e7:ρ 7=UN ⟨(St.bU t).toArray⟩:=f7;rw[e5,e7]at hK |-;have hbl:=oV r;have hsl:=rz t;have y1:¬9223372036854775807<2+(gH r).size+(St.bU t).length:=by omega
   go_simp;refine hK _ _ (bi _ _) (by simpa[au]using hI) (λW2 h2=>⟨r,hr,rfl⟩)
  refine aj.cons (λρ L W hR hI hL hD hO hF K hK=>?_) ?_
  ·have ez:g<W.1.size:=Nat.lt_of_lt_of_le hI.lt.1 hI.lt.2;have dD:=hI.lt.2;have f8:=ag hF (j:=8) (by decide);clear hF hD hO;simp only[Act.put,aq,al,ar]at hK |-;obtain⟨r,hr,e8⟩:=f8;rw[e8]at hK |-;go_simp;refine hK _ _ (bi _ _) (by simpa[au]using hI) (λW2 h2=>?_);exact⟨r,hr,rfl⟩
  exact aj.nil
 case hend=>
  intro ρ L W hR hI hL hF;obtain⟨_,_,_,_,_,_,_,_,_,⟨r,hr,e9⟩,_⟩:=hF;have hL2:=hL 2 (by decide);simp only[hL2,if_true]at hI;have hgb:w.grownBy W (UX g):=aW ((((ac.refl w).alloc _).drew).gb _) hR (λ_ e=>.inl e);have HE:=aa (And.intro hI hgb);rw[e9];clear hI hgb hR hL e9;go_wp2;go_ret;refine⟨r,hr,fQ ?_,HE.out.1,HE.out.2⟩;apply ByteArray.ext;simp[gH]
end
section
theorem Ia{w w':World}{A:Option Addr}{f:List St.It}{g:Nat}(h:aO w A f)(k:w.grownBy w' (UX g))(hne:∀b off,A=UX ⟨b,off,UW⟩->b≠g):aO w' A f:=by
 intro h0;obtain⟨b,off,rfl,hb,hc⟩:=h h0;refine⟨b,off,rfl,Nat.lt_of_lt_of_le hb k.size,λj hj=>?_⟩;obtain⟨c0,c1,c2⟩:=hc j hj;have hn:=hne b off rfl;exact⟨(dd k (p:=⟨b,_,UW⟩) hb (by simpa using hn)).trans c0,(dd k (p:=⟨b,_,UW⟩) hb (by simpa using hn)).trans c1,(dd k (p:=⟨b,_,UW⟩) hb (by simpa using hn)).trans c2⟩
end
section
theorem pA(n:Nat)(w:World)(hn:n<=4611686018427387904):Calls Tryz.prog 134 #[UM .i64 n] w λe w'=>e=.returned (UN ⟨(Lib.decDigits n).toArray⟩)/\ac w w':=by
 have h0:¬(n:Int)<0:=by omega
 go_enter Tryz.func134,Tryz.ntmps134;go_wp2_with (go_at_call 176;refine(pG n _ hn).mono ?_;rintro e w' ⟨rfl,X,rfl⟩);go_ret;exact⟨rfl,uZ⟩
theorem GG{i:Nat}(h:i<10):(⟨(Lib.decDigits i).toArray⟩:ByteArray).size=1:=by
 rw[Lib.decDigits_one h];rfl
end
section
def jg(aw:Nat):List UInt8:=if aw=0 then[]else if aw=1 then[55,44]else[120,44]
def io(aw:Nat):List UInt8:=if aw=0 then[]else if aw=1 then[]else[44,34,121,34]
def R7(aw:Nat):ByteArray:=⟨(jg aw).toArray⟩
def PW(aw:Nat):ByteArray:=⟨(io aw).toArray⟩
end
section
end
