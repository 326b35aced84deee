/- The contracts of the makers shield and longer. -/
import Derived.Test.YthoemdibbldndaaGreatDoorGL
import Derived.Test.YthoemdibbldndaaGreatDoorRefEnc
import Derived.Test.YthoemdibbldndaaGreatDoorRefSlice
import Derived.Test.YthoemdibbldndaaGreatDoorDcB
set_option linter.all false
set_option maxHeartbeats 0
set_option maxRecDepth 20000
open Go.Value renaming int->VD,string->VE,slice->VF,pointer->VH
open Go.IntKind renaming i64->VJ
open Go.Ending renaming returned->VL
open Option renaming none->VM,some->VN
open Go renaming World->VO
namespace Go.Proofs.YthoemdibbldndaaGreatDoor
open Go.RowKit
section
namespace St
def ey:List UInt8->List UInt8
 | c :: r=>if c.toNat=32 then[92,115]++r else c :: r
 | []=>[]
def rT(r:Nat):List UInt8:=if r=0 then[]else if r=1 then[32]else[9,32]
end St
def gS(r:Nat):ByteArray:=⟨(St.rT r).toArray⟩
theorem wg(t:List UInt8)(w:VO)(ht:t.length<=4611686018427387904):Calls Tryz.prog 201 #[VE ⟨t.toArray⟩] w λe w'=>e=VL (VE ⟨(St.ey t).toArray⟩)/\ac w w':=by
 have rA:(⟨t.toArray⟩:ByteArray).size=t.length:=by show t.toArray.size=_;simp
 cases t with
 | nil=>
  go_enter Tryz.func201,Tryz.ntmps201;go_wp2;go_ret;exact⟨rfl,uZ⟩
 | cons c r=>
  have hne:((⟨(c :: r).toArray⟩:ByteArray).toList==[])=false:=by rw[Lib.toList_data];rfl
  have Jd:((⟨(c :: r).toArray⟩:ByteArray).toList != [])=true:=by rw[Lib.toList_data];rfl
  have z0:(0:Int)<((c :: r).length:Int):=by simp<;>omega
  have tZ:(0:Int)<((⟨(c :: r).toArray⟩:ByteArray).size:Int):=by rw[rA];exact z0
  have h0:0<(⟨(c :: r).toArray⟩:ByteArray).size:=by omega
  have bK:(⟨(c :: r).toArray⟩:ByteArray)[0]=c:=by show(c :: r).toArray[0]=c;simp
  have hrl:r.length+1<=4611686018427387904:=by simpa using ht
  have hex:(⟨(c :: r).toArray⟩:ByteArray).extract 1 (c :: r).length=⟨r.toArray⟩:=rV _ _ (by rw[Lib.extract_data];simp[List.take_of_length_le]);have hsz:(c :: r).length=r.length+1:=by simp
  generalize hb:(⟨(c :: r).toArray⟩:ByteArray)=b at *
  by_cases q:c.toNat=32
  ·have p1:((b[0].toNat:Int)==32)=true:=by rw[bK];simp;omega
   have hr:=aa (show St.ey (c :: r)=[92,115]++r by simp only[St.ey,if_pos q]);have z1:(1:Int)<=(b.size:Int):=by omega
   rw[<-rA]at hex;have y1:¬9223372036854775807<2+r.length:=by omega
   clear bK q hsz;go_enter Tryz.func201,Tryz.ntmps201;go_wp2;go_ret;refine⟨fO ?_,uZ⟩;rw[hr.out];have hbl:b.1.1=c :: r:=by rw[<-hb]
   apply ByteArray.ext;simp[hbl,List.take_of_length_le]
  have p1:((b[0].toNat:Int)==32)=false:=by rw[bK];simp;omega
  have hr:=aa (show St.ey (c :: r)=c :: r by simp only[St.ey,if_neg q]);clear bK q hsz hex;go_enter Tryz.func201,Tryz.ntmps201;go_wp2;go_ret;refine⟨fO ?_,uZ⟩;rw[hr.out,hb]
def Ld(B g:Nat)(t:List UInt8):List ek:=[
 λv W=>∃b,v=VF (VN ⟨b,0,VM⟩) 3 3/\B<=b/\b<W.1.size/\∀r,r<3->W.cell? ⟨b,r,VM⟩=VN (VE (gS r)),
 λv _=>v=VH (VN ⟨g,0,VM⟩),
 λv _=>∃r:Nat,r<3/\v=VD VJ r,
 λv W=>∃b r:Nat,r<3/\B<=b/\b<W.1.size/\v=VH (VN ⟨b,r,VM⟩)/\W.cell? ⟨b,r,VM⟩=VN (VE (gS r)),
 λv _=>∃r:Nat,r<3/\v=VE (gS r),
 λv _=>∃r:Nat,r<3/\v=VE ((⟨#[92,10]⟩:ByteArray)++gS r),
 λv _=>v=VE ⟨t.toArray⟩,
 λv _=>v=VE ⟨(St.ey t).toArray⟩,
 λv _=>∃r:Nat,r<3/\v=VE ((⟨#[92,10]⟩:ByteArray)++gS r++⟨(St.ey t).toArray⟩),
 λv _=>∃r:Nat,r<3/\v=VE ((⟨#[92,10]⟩:ByteArray)++gS r++⟨(St.ey t).toArray⟩)]
theorem wh(t:List UInt8):(St.ey t).length<=t.length+1:=by
 cases t with
 | nil=>simp[St.ey]
 | cons c r=>simp only[St.ey];split<;>simp
theorem oM(r:Nat):(gS r).size<=2:=by unfold gS St.rT;split;decide;split<;>decide
theorem j2{P:Program}{ops:Array Oper}{o:Oper}{a:Act}{w:VO}{K:Act->VO->Prop}{Q:Exit->Act->VO->Prop}{E:Prop}
  (hg:o.guard=VM) (f:FuncId) (args:Array Value) (Po:Ending->VO->Prop) (hc:Calls P f args w Po)
  (hrun:(execOp a.eval o).run P w=.ok (.enter f args) w) (hK:∀e w',Po e w'->∃v,e=VL v/\K (a.put o.dst v) w') :
  if Region.wanted o (yielded ops a.tmps)=true then Oper.wp P o a w K Q else E:=by
 have hw:Region.wanted o (yielded ops a.tmps)=true:=by simp[Region.wanted,hg]
 rw[if_pos hw];unfold Oper.wp;rw[hrun];refine hc.mono ?_;intro e w' hp;obtain⟨v,rfl,hk⟩:=hK e w' hp;exact hk
theorem ES(B g P:Nat)(k:Int)(x:List UInt8)(i:Int)(t:List UInt8)(w:VO)(hG:bm w B g P)(hP:P<=1000000)(ht:t.length<=1000000)(hx:¬(k=1/\x=[32])) :
  Calls Tryz.prog 175 #[VH (VN ⟨g,0,VM⟩),VD VJ 2,.agg #[VD VJ k,VE ⟨x.toArray⟩,VD VJ i],VE ⟨t.toArray⟩] w λe w'=>∃r:Nat,r<3/\e=VL (VE ⟨([92,10]++St.rT r++St.ey t).toArray⟩)/\bm w' B g (P+1)/\w.grownBy w' (VN g):=by
 have HG:=aa hG;obtain⟨jD,hB⟩:=hG.lt;have cV:=jo ⟨x.toArray⟩ [32];have hxl:((⟨x.toArray⟩:ByteArray).1.1)=x:=by simp
 rw[hxl]at cV;clear hxl
 by_cases h1:x=[32]
 ·have h2:¬k=1:=λe=>hx ⟨e,h1⟩
  subst h1;have q2:(k==1)=false:=by simpa using h2
  clear hx hG cV h2;go_enter Tryz.func175,Tryz.ntmps175;go_wp2_with fail;refine bt (λa b=>a.grownBy b (VN g)) (λL W=>bm W B g (if L 2 then P+1 else P)) (Ld B g t) (λa=>bh a _) (λa b c h k=>aK h k (λ_ e=>.inl e)) (by kernel_rfl) (by rfl) (by kernel_rfl) (by kernel_rfl) ?fr ?hfr ?hI ?hob ?hend
  case hfr=>
   intro ρ;simp only[bP,Act.put,ap,ak,aq,Nat.zero_add,Nat.reduceAdd];exact rfl
  case hI=>exact HG.out.ah ((ac.refl _).alloc _).drew
  case hob=>
   unfold Ld;refine aj.cons (λρ L W hR hI hL hD hO hF K hK=>?_) ?_
   ·have du:g<W.1.size:=Nat.lt_of_lt_of_le hI.lt.1 hI.lt.2;have dF:=hI.lt.2;clear hF hD hO;simp only[Act.put,ap,ak,aq]at hK |-;go_simp;refine hK _ _ (((ac.refl W).alloc _).gb _) (by simpa[ar]using hI.ah ((ac.refl W).alloc _)) (λW2 h2=>⟨W.1.size,rfl,dF,by have:=h2.size;simp at this;omega,λr hr=>?_⟩);rw[dc h2 (p:=⟨W.1.size,r,VM⟩) (by simp) (by simp;omega),World.cell?_alloc_at _ _ _ _ rfl];rcases(show r=0\/r=1\/r=2 by omega)with h|h|h<;>subst h<;>rfl
   refine aj.cons (λρ L W hR hI hL hD hO hF K hK=>?_) ?_
   ·have du:g<W.1.size:=Nat.lt_of_lt_of_le hI.lt.1 hI.lt.2;have dF:=hI.lt.2;clear hF hD hO;simp only[Act.put,ap,ak,aq]at hK |-;go_simp;refine hK _ _ (bh _ _) (by simpa[ar]using hI) (λW2 h2=>?_);rfl
   refine aj.cons (λρ L W hR hI hL hD hO hF K hK=>?_) ?_
   ·have du:g<W.1.size:=Nat.lt_of_lt_of_le hI.lt.1 hI.lt.2;have dF:=hI.lt.2;have f1:=ag hF (j:=1) (by decide);clear hF hD hO;simp only[Act.put,ap,ak,aq]at hK |-;have e1:ρ 1=VH (VN ⟨g,0,VM⟩):=f1;rw[e1]at hK |-;have cY:bm W B g P:=by simpa[hL]using hI
    refine j2 (o:=⟨VN 53,_,_,_,_,_⟩) rfl 64 #[VH (VN ⟨g,0,VM⟩),VD VJ 3] _ (bN B g P 3 W cY (by omega) (by omega) (by omega)) ?_ ?_
    ·go_simp
    rintro e W2 ⟨r,rfl,hr,hG2,hk⟩;exact⟨_,rfl,hK _ _ hk (by simpa[ar]using hG2) (λW3 h3=>⟨r,by omega,rfl⟩)⟩
   refine aj.cons (λρ L W hR hI hL hD hO hF K hK=>?_) ?_
   ·have du:g<W.1.size:=Nat.lt_of_lt_of_le hI.lt.1 hI.lt.2;have dF:=hI.lt.2;have f0:=ag hF (j:=0) (by decide);have f2:=ag hF (j:=2) (by decide);clear hF hD hO;simp only[Act.put,ap,ak,aq]at hK |-;obtain⟨b,e0,hb1,hb2,hc⟩:=f0;obtain⟨r,hr,e2⟩:=f2;rw[e0,e2]at hK |-;have z1:(r:Int)<3:=by omega
    go_simp;refine hK _ _ (bh _ _) (by simpa[ar]using hI) (λW2 h2=>?_);have hc2:=(dc h2 (p:=⟨b,r,VM⟩) hb2 (by simp;omega)).trans (hc r hr);exact⟨b,r,hr,hb1,Nat.lt_of_lt_of_le hb2 h2.size,rfl,hc2⟩
   refine aj.cons (λρ L W hR hI hL hD hO hF K hK=>?_) ?_
   ·have du:g<W.1.size:=Nat.lt_of_lt_of_le hI.lt.1 hI.lt.2;have dF:=hI.lt.2;have f3:=ag hF (j:=3) (by decide);clear hF hD hO;simp only[Act.put,ap,ak,aq]at hK |-;obtain⟨b,r,hr,hb1,hb2,e3,hc⟩:=f3;rw[e3]at hK |-;go_simp;refine hK _ _ (bh _ _) (by simpa[ar]using hI) (λW2 h2=>?_);exact⟨r,hr,rfl⟩
   refine aj.cons (λρ L W hR hI hL hD hO hF K hK=>?_) ?_
   ·have du:g<W.1.size:=Nat.lt_of_lt_of_le hI.lt.1 hI.lt.2;have dF:=hI.lt.2;have f4:=ag hF (j:=4) (by decide);clear hF hD hO;simp only[Act.put,ap,ak,aq]at hK |-;obtain⟨r,hr,e4⟩:=f4;rw[e4]at hK |-;have hbl:=oM r;have y1:¬9223372036854775807<2+(gS r).size:=by omega
    go_simp;refine hK _ _ (bh _ _) (by simpa[ar]using hI) (λW2 h2=>?_);exact⟨r,hr,rfl⟩
   refine aj.cons (λρ L W hR hI hL hD hO hF K hK=>?_) ?_
   ·have du:g<W.1.size:=Nat.lt_of_lt_of_le hI.lt.1 hI.lt.2;have dF:=hI.lt.2;clear hF hD hO;simp only[Act.put,ap,ak,aq]at hK |-;go_simp;refine hK _ _ (bh _ _) (by simpa[ar]using hI) (λW2 h2=>?_);rfl
   refine aj.cons (λρ L W hR hI hL hD hO hF K hK=>?_) ?_
   ·have du:g<W.1.size:=Nat.lt_of_lt_of_le hI.lt.1 hI.lt.2;have dF:=hI.lt.2;have f6:=ag hF (j:=6) (by decide);clear hF hD hO;simp only[Act.put,ap,ak,aq]at hK |-;have e6:ρ 6=VE ⟨t.toArray⟩:=f6;rw[e6]at hK |-;refine j2 (o:=⟨VN 58,_,_,_,_,_⟩) rfl 201 #[VE ⟨t.toArray⟩] _ (wg t W (by omega)) ?_ ?_
    ·go_simp
    rintro e W2 ⟨rfl,hu⟩;exact⟨_,rfl,hK _ _ (hu.gb _) (by simpa[ar]using hI.ah hu) (λW3 h3=>rfl)⟩
   refine aj.cons (λρ L W hR hI hL hD hO hF K hK=>?_) ?_
   ·have du:g<W.1.size:=Nat.lt_of_lt_of_le hI.lt.1 hI.lt.2;have dF:=hI.lt.2;have f5:=ag hF (j:=5) (by decide);have f7:=ag hF (j:=7) (by decide);clear hF hD hO;simp only[Act.put,ap,ak,aq]at hK |-;obtain⟨r,hr,e5⟩:=f5;have e7:ρ 7=VE ⟨(St.ey t).toArray⟩:=f7;rw[e5,e7]at hK |-;have hbl:=oM r;have hsl:=wh t;have y1:¬9223372036854775807<2+(gS r).size+(St.ey t).length:=by omega
    go_simp;refine hK _ _ (bh _ _) (by simpa[ar]using hI) (λW2 h2=>⟨r,hr,rfl⟩)
   refine aj.cons (λρ L W hR hI hL hD hO hF K hK=>?_) ?_
   ·have du:g<W.1.size:=Nat.lt_of_lt_of_le hI.lt.1 hI.lt.2;have dF:=hI.lt.2;have f8:=ag hF (j:=8) (by decide);clear hF hD hO;simp only[Act.put,ap,ak,aq]at hK |-;obtain⟨r,hr,e8⟩:=f8;rw[e8]at hK |-;go_simp;refine hK _ _ (bh _ _) (by simpa[ar]using hI) (λW2 h2=>?_);exact⟨r,hr,rfl⟩
   exact aj.nil
  case hend=>
   intro ρ L W hR hI hL hF;obtain⟨_,_,_,_,_,_,_,_,_,⟨r,hr,e9⟩,_⟩:=hF;have hL2:=hL 2 (by decide);simp only[hL2,if_true]at hI;have hgb:w.grownBy W (VN g):=aK ((((ac.refl w).alloc _).drew).gb _) hR (λ_ e=>.inl e);have HE:=aa (And.intro hI hgb);rw[e9];clear hI hgb hR hL e9;go_wp2;go_ret;refine⟨r,hr,fO ?_,HE.out.1,HE.out.2⟩;apply ByteArray.ext;simp[gS]
 have q1:(x==[32])=false:=by simpa using h1
 rw[decide_eq_false h1]at cV;clear hx hG;go_enter Tryz.func175,Tryz.ntmps175;go_wp2_with fail;refine bt (λa b=>a.grownBy b (VN g)) (λL W=>bm W B g (if L 2 then P+1 else P)) (Ld B g t) (λa=>bh a _) (λa b c h k=>aK h k (λ_ e=>.inl e)) (by kernel_rfl) (by rfl) (by kernel_rfl) (by kernel_rfl) ?frB ?hfr ?hI ?hob ?hend
 case hfr=>
  intro ρ;simp only[bP,Act.put,ap,ak,aq,Nat.zero_add,Nat.reduceAdd];exact rfl
 case hI=>exact HG.out.ah ((ac.refl _).alloc _).drew
 case hob=>
  unfold Ld;refine aj.cons (λρ L W hR hI hL hD hO hF K hK=>?_) ?_
  ·have du:g<W.1.size:=Nat.lt_of_lt_of_le hI.lt.1 hI.lt.2;have dF:=hI.lt.2;clear hF hD hO;simp only[Act.put,ap,ak,aq]at hK |-;go_simp;refine hK _ _ (((ac.refl W).alloc _).gb _) (by simpa[ar]using hI.ah ((ac.refl W).alloc _)) (λW2 h2=>⟨W.1.size,rfl,dF,by have:=h2.size;simp at this;omega,λr hr=>?_⟩);rw[dc h2 (p:=⟨W.1.size,r,VM⟩) (by simp) (by simp;omega),World.cell?_alloc_at _ _ _ _ rfl];rcases(show r=0\/r=1\/r=2 by omega)with h|h|h<;>subst h<;>rfl
  refine aj.cons (λρ L W hR hI hL hD hO hF K hK=>?_) ?_
  ·have du:g<W.1.size:=Nat.lt_of_lt_of_le hI.lt.1 hI.lt.2;have dF:=hI.lt.2;clear hF hD hO;simp only[Act.put,ap,ak,aq]at hK |-;go_simp;refine hK _ _ (bh _ _) (by simpa[ar]using hI) (λW2 h2=>?_);rfl
  refine aj.cons (λρ L W hR hI hL hD hO hF K hK=>?_) ?_
  ·have du:g<W.1.size:=Nat.lt_of_lt_of_le hI.lt.1 hI.lt.2;have dF:=hI.lt.2;have f1:=ag hF (j:=1) (by decide);clear hF hD hO;simp only[Act.put,ap,ak,aq]at hK |-;have e1:ρ 1=VH (VN ⟨g,0,VM⟩):=f1;rw[e1]at hK |-;have cY:bm W B g P:=by simpa[hL]using hI
   refine j2 (o:=⟨VN 53,_,_,_,_,_⟩) rfl 64 #[VH (VN ⟨g,0,VM⟩),VD VJ 3] _ (bN B g P 3 W cY (by omega) (by omega) (by omega)) ?_ ?_
   ·go_simp
   rintro e W2 ⟨r,rfl,hr,hG2,hk⟩;exact⟨_,rfl,hK _ _ hk (by simpa[ar]using hG2) (λW3 h3=>⟨r,by omega,rfl⟩)⟩
  refine aj.cons (λρ L W hR hI hL hD hO hF K hK=>?_) ?_
  ·have du:g<W.1.size:=Nat.lt_of_lt_of_le hI.lt.1 hI.lt.2;have dF:=hI.lt.2;have f0:=ag hF (j:=0) (by decide);have f2:=ag hF (j:=2) (by decide);clear hF hD hO;simp only[Act.put,ap,ak,aq]at hK |-;obtain⟨b,e0,hb1,hb2,hc⟩:=f0;obtain⟨r,hr,e2⟩:=f2;rw[e0,e2]at hK |-;have z1:(r:Int)<3:=by omega
   go_simp;refine hK _ _ (bh _ _) (by simpa[ar]using hI) (λW2 h2=>?_);have hc2:=(dc h2 (p:=⟨b,r,VM⟩) hb2 (by simp;omega)).trans (hc r hr);exact⟨b,r,hr,hb1,Nat.lt_of_lt_of_le hb2 h2.size,rfl,hc2⟩
  refine aj.cons (λρ L W hR hI hL hD hO hF K hK=>?_) ?_
  ·have du:g<W.1.size:=Nat.lt_of_lt_of_le hI.lt.1 hI.lt.2;have dF:=hI.lt.2;have f3:=ag hF (j:=3) (by decide);clear hF hD hO;simp only[Act.put,ap,ak,aq]at hK |-;obtain⟨b,r,hr,hb1,hb2,e3,hc⟩:=f3;rw[e3]at hK |-;go_simp;refine hK _ _ (bh _ _) (by simpa[ar]using hI) (λW2 h2=>?_);exact⟨r,hr,rfl⟩
  refine aj.cons (λρ L W hR hI hL hD hO hF K hK=>?_) ?_
  ·have du:g<W.1.size:=Nat.lt_of_lt_of_le hI.lt.1 hI.lt.2;have dF:=hI.lt.2;have f4:=ag hF (j:=4) (by decide);clear hF hD hO;simp only[Act.put,ap,ak,aq]at hK |-;obtain⟨r,hr,e4⟩:=f4;rw[e4]at hK |-;have hbl:=oM r;have y1:¬9223372036854775807<2+(gS r).size:=by omega
   go_simp;refine hK _ _ (bh _ _) (by simpa[ar]using hI) (λW2 h2=>?_);exact⟨r,hr,rfl⟩
  refine aj.cons (λρ L W hR hI hL hD hO hF K hK=>?_) ?_
  ·have du:g<W.1.size:=Nat.lt_of_lt_of_le hI.lt.1 hI.lt.2;have dF:=hI.lt.2;clear hF hD hO;simp only[Act.put,ap,ak,aq]at hK |-;go_simp;refine hK _ _ (bh _ _) (by simpa[ar]using hI) (λW2 h2=>?_);rfl
  refine aj.cons (λρ L W hR hI hL hD hO hF K hK=>?_) ?_
  ·have du:g<W.1.size:=Nat.lt_of_lt_of_le hI.lt.1 hI.lt.2;have dF:=hI.lt.2;have f6:=ag hF (j:=6) (by decide);clear hF hD hO;simp only[Act.put,ap,ak,aq]at hK |-;have e6:ρ 6=VE ⟨t.toArray⟩:=f6;rw[e6]at hK |-;refine j2 (o:=⟨VN 58,_,_,_,_,_⟩) rfl 201 #[VE ⟨t.toArray⟩] _ (wg t W (by omega)) ?_ ?_
   ·go_simp
   rintro e W2 ⟨rfl,hu⟩;exact⟨_,rfl,hK _ _ (hu.gb _) (by simpa[ar]using hI.ah hu) (λW3 h3=>rfl)⟩
  refine aj.cons (λρ L W hR hI hL hD hO hF K hK=>?_) ?_
  ·have du:g<W.1.size:=Nat.lt_of_lt_of_le hI.lt.1 hI.lt.2;have dF:=hI.lt.2;have f5:=ag hF (j:=5) (by decide);have f7:=ag hF (j:=7) (by decide);clear hF hD hO;simp only[Act.put,ap,ak,aq]at hK |-;obtain⟨r,hr,e5⟩:=f5;have e7:ρ 7=VE ⟨(St.ey t).toArray⟩:=f7;rw[e5,e7]at hK |-;have hbl:=oM r;have hsl:=wh t;have y1:¬9223372036854775807<2+(gS r).size+(St.ey t).length:=by omega
   go_simp;refine hK _ _ (bh _ _) (by simpa[ar]using hI) (λW2 h2=>⟨r,hr,rfl⟩)
  refine aj.cons (λρ L W hR hI hL hD hO hF K hK=>?_) ?_
  ·have du:g<W.1.size:=Nat.lt_of_lt_of_le hI.lt.1 hI.lt.2;have dF:=hI.lt.2;have f8:=ag hF (j:=8) (by decide);clear hF hD hO;simp only[Act.put,ap,ak,aq]at hK |-;obtain⟨r,hr,e8⟩:=f8;rw[e8]at hK |-;go_simp;refine hK _ _ (bh _ _) (by simpa[ar]using hI) (λW2 h2=>?_);exact⟨r,hr,rfl⟩
  exact aj.nil
 case hend=>
  intro ρ L W hR hI hL hF;obtain⟨_,_,_,_,_,_,_,_,_,⟨r,hr,e9⟩,_⟩:=hF;have hL2:=hL 2 (by decide);simp only[hL2,if_true]at hI;have hgb:w.grownBy W (VN g):=aK ((((ac.refl w).alloc _).drew).gb _) hR (λ_ e=>.inl e);have HE:=aa (And.intro hI hgb);rw[e9];clear hI hgb hR hL e9;go_wp2;go_ret;refine⟨r,hr,fO ?_,HE.out.1,HE.out.2⟩;apply ByteArray.ext;simp[gS]
end
section
theorem NC(fmt:Int)(f:List St.It):(St.bj fmt f).1.length<=5*aP f+3*f.length:=by
 have hb:∀t:List UInt8,(t.flatMap (St.bZ fmt)).length<=5*t.length:=λt=>by
  induction t with
  | nil=>simp
  | cons c t ih=>rw[List.flatMap_cons,List.length_append,List.length_cons];have:=(St.nX fmt c).2;omega
 have hi:∀x:St.It,(St.cF fmt x).length<=5*x.2.1.length+3:=λx=>by
  unfold St.cF;have:=hb x.2.1
  repeat' split
  all_goals first|exact Nat.le_trans this (by omega)|(simp;done)|(simp;omega)
 have hf:(f.flatMap (St.cF fmt)).length<=5*aP f+3*f.length:=by
  induction f with
  | nil=>simp
  | cons x f ih=>
   rw[List.flatMap_cons,List.length_append,List.length_cons];have:=hi x
   have e:aP (x :: f)=x.2.1.length+aP f:=by simp[aP]
   omega
 unfold St.bj
 split
 ·simp
 split
 ·simp
 exact hf
theorem G9(fmt:Int)(hk:fmt=1\/fmt=2\/fmt=3)(B g P:Nat)(k:Int)(x:List UInt8)(i:Int)(u:List UInt8)(w:VO)(hG:bm w B g P)(hP:P<=1000000)(hu:u.length<=1000000) :
  Calls Tryz.prog 175 #[VH (VN ⟨g,0,VM⟩),VD VJ fmt,.agg #[VD VJ k,VE ⟨x.toArray⟩,VD VJ i],VE ⟨u.toArray⟩] w λe w'=>∃b:ByteArray,e=VL (VE b)/\b.size<=u.length+10/\bm w' B g (P+1)/\w.grownBy w' (VN g):=by
 have us:(⟨u.toArray⟩:ByteArray).size=u.length:=by show u.toArray.size=_;simp
 have fin:∀(W:VO) (b:ByteArray),ac w W->b.size<=u.length+10->∃b':ByteArray,Ending.returned (VE b)=VL (VE b')/\b'.size<=u.length+10/\bm W B g (P+1)/\w.grownBy W (VN g):=λW b hW hb=>⟨b,rfl,hb,(hG.ah hW).le (by omega),hW.gb _⟩
 have gk:=aa fin;have HG:=aa hG;obtain⟨jD,hB⟩:=hG.lt;clear fin hG;rcases hk with rfl|rfl|rfl
 ·have F4:=jo ⟨x.toArray⟩ [62];have Ab:=jo ⟨x.toArray⟩ [125];have hxl:((⟨x.toArray⟩:ByteArray).1.1)=x:=by simp
  rw[hxl]at F4 Ab
  by_cases h3:x=[62]
  ·subst h3;clear F4 Ab hxl
   by_cases hk1:k=1
   ·subst hk1;go_enter Tryz.func175,Tryz.ntmps175;go_wp2;go_ret;exact gk.out _ ⟨#[38,103,116,59]⟩ (uZ) (by show 4<=_;omega)
   have q2:(k==1)=false:=by simpa using hk1
   clear hk1;generalize(⟨u.toArray⟩:ByteArray)=uu at us |-;go_enter Tryz.func175,Tryz.ntmps175;go_wp2;go_ret;exact gk.out _ uu (uZ) (by omega)
  by_cases h4:x=[125]
  ·subst h4;clear F4 Ab hxl h3
   by_cases hk1:k=1
   ·subst hk1;go_enter Tryz.func175,Tryz.ntmps175;go_wp2;go_ret;exact gk.out _ ⟨#[38,114,98,59]⟩ (uZ) (by show 4<=_;omega)
   have q2:(k==1)=false:=by simpa using hk1
   clear hk1;generalize(⟨u.toArray⟩:ByteArray)=uu at us |-;go_enter Tryz.func175,Tryz.ntmps175;go_wp2;go_ret;exact gk.out _ uu (uZ) (by omega)
  rw[decide_eq_false h3]at F4;rw[decide_eq_false h4]at Ab;generalize(⟨x.toArray⟩:ByteArray)=s at F4 Ab |-;generalize(⟨u.toArray⟩:ByteArray)=uu at us |-;clear h3 h4 hxl;go_enter Tryz.func175,Tryz.ntmps175;go_wp2;go_ret;exact gk.out _ uu (uZ) (by omega)
 ·by_cases hx:k=1/\x=[32]
  ·obtain⟨rfl,rfl⟩:=hx;go_enter Tryz.func175,Tryz.ntmps175;go_wp2;go_ret;exact gk.out _ ⟨#[92,115]⟩ (uZ) (by show 2<=_;omega)
  refine(ES B g P k x i u w HG.out hP hu hx).mono ?_;rintro e w' ⟨r,hr,rfl,h1,h2⟩;refine⟨_,rfl,?_,h1,h2⟩
  show(([92,10]++St.rT r++St.ey u).toArray).size<=_
  have hb:(St.rT r).length<=3:=by rcases(show r=0\/r=1\/r=2 by omega)with rfl|rfl|rfl<;>decide
  have hs:(St.ey u).length<=u.length+1:=by
   unfold St.ey
   split
   ·split<;>simp
   simp
  simp only[List.size_toArray,List.length_append,List.length_cons,List.length_nil];omega
 generalize(⟨u.toArray⟩:ByteArray)=uu at us |-;generalize(⟨x.toArray⟩:ByteArray)=s;go_enter Tryz.func175,Tryz.ntmps175;go_wp2;go_ret;exact gk.out _ uu (uZ) (by omega)
def PB(w:VO)(B g P M L:Nat)(s7 s8:Value)(wr:VO):Prop:=
 ∃(i:Nat) (au:ByteArray),i<=L/\s8=VD VJ i/\s7=VE au/\au.size<=M*i/\bm wr B g (P+2*i)/\w.grownBy wr (VN g)
theorem yo{w w':VO}{A:Option Addr}{f:List St.It}{g:Nat}(h:aE w A f)(k:w.grownBy w' (VN g))(hne:∀b off,A=VN ⟨b,off,VM⟩->b≠g):aE w' A f:=by
 intro h0;obtain⟨b,off,rfl,hb,hc⟩:=h h0;refine⟨b,off,rfl,Nat.lt_of_lt_of_le hb k.size,λj hj=>?_⟩;obtain⟨c0,c1,c2⟩:=hc j hj;have hn:=hne b off rfl;exact⟨(dc k (p:=⟨b,_,VM⟩) hb (by simpa using hn)).trans c0,(dc k (p:=⟨b,_,VM⟩) hb (by simpa using hn)).trans c1,(dc k (p:=⟨b,_,VM⟩) hb (by simpa using hn)).trans c2⟩
theorem sw(fmt:Int)(hk:fmt=1\/fmt=2\/fmt=3)(B g P M L:Nat)(A:Option Addr)(n c:Nat)(f:List St.It)(w:VO)(hG:bm w B g P)(hP:P<=100000)(hn:f.length=n)(h:aE w A f)(hne:∀b off,A=VN ⟨b,off,VM⟩->b≠g)
  (hl:n<=1000) (ht:aP f<=10000) (hM:M=5*aP f+3*n+10) (hL:L=St.aR f) :
  Calls Tryz.prog 133 #[VH (VN ⟨g,0,VM⟩),VD VJ fmt,VF A n c] w λe w'=>∃au:ByteArray,e=VL (VE au)/\au.size<=M*L/\bm w' B g (P+2*L)/\w.grownBy w' (VN g):=by
 have HG:=aa hG;have H:=aa h;have HN:=aa hn;have gl:=aa hne;have HL:=aa hL;have HM:=aa hM;obtain⟨jD,hB⟩:=hG.lt;have hll:L<=aP f+n:=by rw[hL];have:=fW f;omega
 have U1:M*L<=60000*11000:=Nat.mul_le_mul (by omega) (by omega);clear hG h hn hne hL hM;go_enter Tryz.func133,Tryz.ntmps133;go_wp2_with fail;go_loopw [7,8] (λs7 s8 wr=>PB w B g P M L s7 s8 wr) (λ_ s8 _=>L+1-(intOf s8).toNat)
 case atStart=>exact⟨0,⟨#[]⟩,by omega,rfl,rfl,by show 0<=_;omega,HG.out,bh _ _⟩
 case round=>
  clear HG;obtain⟨i,au,hi,rfl,rfl,hrs,hG,hk⟩:=hrel;have HG:=aa hG;have HK:=aa hk;have hI:=yo H.out hk gl.out;have hlen:=jc A n c f wr HN.out hI (by omega) (by omega);rw[<-HL.out]at hlen;have HLEN:=aa hlen;have hsz:=hk.size;have U2:M*i<=M*L:=Nat.mul_le_mul (Nat.le_refl M) hi
  by_cases hlt:i<L
  ·have z1:(i:Int)<(L:Nat):=by omega
   have U3:M*i+M<=M*(i+1):=Nat.le_of_eq (Nat.mul_succ M i).symm;have hsl:=aa (nu A n c f i (i+1) wr HN.out hI (by omega) (by omega) (by omega) (by rw[<-HL.out];omega));have hx1:=yN i (i+1) f 0;have hx2:=oA i (i+1) f 0;generalize St.bi i (i+1) 0 f=x at hsl hx1 hx2;have hen:=NC fmt x;have hN:=HN.out;have hM:5*aP f+3*n+10<=M:=by have:=HM.out;omega
   have pO:(⟨(St.bj fmt x).1.toArray⟩:ByteArray).size=(St.bj fmt x).1.length:=by show(St.bj fmt x).1.toArray.size=_;simp
   clear hI hlen hG hk;go_wp2_with fail;refine HLEN.out.mono ?_;rintro e w2 ⟨rfl,rfl⟩;go_wp2_with fail;refine hsl.out.mono ?_;rintro e w2 ⟨v,rfl,ho,hu2⟩;obtain⟨A2,c2,rfl,hc2,hc3,KU⟩:=aJ ho;have hit:=aM ho rfl;have hnb:=aa (λb off (e:A2=VN ⟨b,off,VM⟩)=>(show wr.1.size<=b from ax ho b (by rw[e];rfl)));have henc:=tT fmt A2 x.length c2 x w2 rfl hc2 (by unfold maxLen at hc3;omega) KU hit (by omega) (by omega);generalize(St.bj fmt x).2=er at henc;generalize(St.bj fmt x).1=u at henc hen pO;have MC:=aa henc;have HIT:=aa hit;have fQ:=aa (bE HK.out hu2);have HG2:=aa (HG.out.ah hu2);clear henc hit ho hu2 HLEN hsl HK HG;go_wp2_with fail;refine MC.out.mono ?_;rintro e w3 ⟨rfl,hu3⟩;have ff:=aa (bE fQ.out hu3);have gJ:=aa (HG2.out.ah hu3);have Rw:=aa (HIT.out.ah hu3);clear hu3 MC fQ HG2 HIT
   by_cases hx:x.length=1
   ·obtain⟨y,rfl⟩:=List.length_eq_one_iff.1 hx;simp only[List.length_singleton]at hen hx1 hc2 |-;clear hx;go_wp2_with fail;refine(bN B g _ 3 _ gJ.out (by omega) (by omega) (by omega)).mono ?_;rintro e w4 ⟨r,rfl,hr,hG4,hk4⟩;have eM:=aa hG4;have de:=aa (aK ff.out hk4 (λ_ e=>.inl e))
    by_cases rz:r=0
    ·subst rz;obtain⟨g2,off,rfl,hg2,hc⟩:=Rw.out (by simp);have I8:g2≠g:=by have:=hnb.out _ _ rfl;omega
     obtain⟨q0,q1,q2⟩:=hc 0 (by simp);have d0:=(dc hk4 (p:=⟨g2,off+0*3,VM⟩) hg2 (by simpa using I8)).trans q0;have d1:=(dc hk4 (p:=⟨g2,off+0*3+1,VM⟩) hg2 (by simpa using I8)).trans q1;have d2:=(dc hk4 (p:=⟨g2,off+0*3+2,VM⟩) hg2 (by simpa using I8)).trans q2;simp only[Nat.zero_mul,Nat.add_zero]at d0 d1 d2;obtain⟨yk,yt,yi⟩:=y;simp only[List.getElem_cons_zero]at d0 d1 d2;haveI:af g2 w4:=af.of (cd _ _ d0);clear hG4 hk4 gJ ff q0 q1 q2 hc;go_wp2_with fail;refine(G9 fmt hk B g _ yk yt yi u _ eM.out (by omega) (by omega)).mono ?_;rintro e w5 ⟨b,rfl,hb,hG5,hk5⟩;have HE:=aa (And.intro hG5 (aK de.out hk5 (λ_ e=>.inl e)));have y1:¬9223372036854775807<au.size+b.size:=by omega
     clear hG5 hk5;go_wp2;exact⟨⟨i+1,_,by omega,congrArg (VD VJ) (by omega),rfl,by rw[ByteArray.size_append];omega,HE.out.1.le (by omega),HE.out.2⟩,by simp[intOf];omega⟩
    have z3:((r:Int)==0)=false:=by simp;omega
    have y1:¬9223372036854775807<au.size+(⟨u.toArray⟩:ByteArray).size:=by omega
    clear hG4 hk4 gJ ff rz;go_wp2;exact⟨⟨i+1,_,by omega,congrArg (VD VJ) (by omega),rfl,by rw[ByteArray.size_append];omega,eM.out.le (by omega),de.out⟩,by simp[intOf];omega⟩
   have z2:((x.length:Int)==1)=false:=by simp;omega
   have y1:¬9223372036854775807<au.size+(⟨u.toArray⟩:ByteArray).size:=by omega
   clear hx;go_wp2;exact⟨⟨i+1,_,by omega,congrArg (VD VJ) (by omega),rfl,by rw[ByteArray.size_append];omega,gJ.out.le (by omega),ff.out⟩,by simp[intOf];omega⟩
  have z1:¬(i:Int)<(L:Nat):=by omega
  clear hI hlen hG hk;go_wp2_with fail;refine HLEN.out.mono ?_;rintro e w2 ⟨rfl,rfl⟩;go_wp2;go_ret;exact⟨au,rfl,by omega,HG.out.le (by omega),HK.out⟩
end
section
def Ik(r:Nat):List UInt8:=if r=0 then[]else if r=1 then[35,120,10]else[10]
def Fk(r:Nat):ByteArray:=⟨(Ik r).toArray⟩
theorem L9(r:Nat):(Fk r).size<=3:=by unfold Fk Ik;split;decide;split<;>decide
theorem pg(n:Nat)(w:VO)(hn:n<=4611686018427387904):Calls Tryz.prog 134 #[VD VJ n] w λe w'=>e=VL (VE ⟨(Lib.decDigits n).toArray⟩)/\ac w w':=by
 have h0:¬(n:Int)<0:=by omega
 go_enter Tryz.func134,Tryz.ntmps134;go_wp2_with (go_at_call 176;refine(pk n _ hn).mono ?_;rintro e w' ⟨rfl,X,rfl⟩);go_ret;exact⟨rfl,uZ⟩
def Pf(w:VO)(B g P m:Nat)(s7 s9:Value)(wr:VO):Prop:=
 ∃(i qn:Nat) (data:ByteArray),s7=VE data/\s9=VD VJ i/\qn+i=m/\data.size<=4+90000*qn/\bm wr B g (P+2+300*qn)/\w.grownBy wr (VN g)
theorem Gb{i:Nat}(h:i<10):(⟨(Lib.decDigits i).toArray⟩:ByteArray).size=1:=by
 rw[Lib.decDigits_one h];rfl
theorem EP(B g P n:Nat)(w:VO)(hG:bm w B g P)(hP:P<=10000)(hn:n<=9) :
  Calls Tryz.prog 100 #[VH (VN ⟨g,0,VM⟩),VD VJ 2,VD VJ n] w λe w'=>∃data:ByteArray,e=VL (VE data)/\data.size<=12+90000*n/\bm w' B g (P+2+300*n)/\w.grownBy w' (VN g):=by
 have HG:=aa hG;obtain⟨jD,hB⟩:=hG.lt;clear hG;go_enter Tryz.func100,Tryz.ntmps100;go_wp2_with fail;refine(bN B g P 3 _ (HG.out.ah ((ac.refl _).alloc (.cells #[VE ⟨#[]⟩,VE ⟨#[35,32,99,10]⟩,VE ⟨#[10,32,10]⟩] 9))) (by omega) (by omega) (by omega)).mono ?_;rintro e w2 ⟨r,rfl,hr,hG2,hk2⟩
 obtain⟨hb,hhb,hhs⟩:∃hb:ByteArray,(#[VE ⟨#[]⟩,VE ⟨#[35,32,99,10]⟩,VE ⟨#[10,32,10]⟩]:Array Value)[r]?=VN (VE hb)/\hb.size<=4:=by
  rcases(show r=0\/r=1\/r=2 by omega)with h|h|h<;>subst h<;>exact⟨_,rfl,by decide⟩
 have hcell:=gB w w2 _ _ B g hk2 jD hB r _ hhb;have HG2:=aa hG2;have fQ:=aa (aK (((ac.refl w).alloc _).gb (VN g)) hk2 (λ_ e=>.inl e));have kc:=fQ.out.size;haveI:af w.1.size w2:=af.of (cd _ _ hcell);have hr3:r<3:=by omega
 clear hG2 hk2 HG hhb;go_wp2_with fail;refine(bN B g _ ((n:Int)+1) _ HG2.out (by omega) (by omega) (by omega)).mono ?_;rintro e w3 ⟨m,rfl,hm,hG3,hk3⟩;have gJ:=aa hG3;have ff:=aa (aK fQ.out hk3 (λ_ e=>.inl e));clear hG3 hk3 HG2 fQ hcell;clear hr;go_wp2_with fail;go_loopw [7,9] (λs7 s9 wr=>Pf w B g P m s7 s9 wr) (λ_ s9 _=>(intOf s9).toNat)
 case atStart=>exact⟨m,0,hb,rfl,rfl,by omega,by omega,gJ.out.le (by omega),ff.out⟩
 case round=>
  clear gJ ff;obtain⟨i,qn,data,rfl,rfl,ye,hds,hG,hk⟩:=hrel;have HG:=aa hG;have HK:=aa hk;have Ba:=hk.size;clear hG hk
  by_cases hi:0<i
  ·have z:(0:Int)<(i:Int):=by omega
   go_wp2_with fail;refine(Aw B g _ 5 _ HG.out (by omega) (by omega)).mono ?_;rintro e w4 ⟨v,f,rfl,ho,hgd,hfl,hft,hG4,hk4⟩;obtain⟨A4,c4,rfl,h41,h42,_⟩:=aJ ho;have eM:=aa hG4;have de:=aa (aK HK.out hk4 (λ_ e=>.inl e));have hit:=aM ho rfl;have hbl:=λb off (e:A4=VN ⟨b,off,VM⟩)=>ax ho b (by subst e;rfl)
   have HIT:=aa hit;clear hG4 hk4 ho hit hgd HG HK;go_wp2_with fail;have yg:=fW f;refine(sw 2 (.inr (.inl rfl)) B g _ (5*aP f+3*f.length+10) (St.aR f) A4 f.length c4 f _ eM.out (by omega) rfl HIT.out (λb off e=>by have:=hbl b off e;omega) (by omega) (by omega) rfl rfl).mono ?_;rintro e w5 ⟨au,rfl,pU,hG5,hk5⟩;have pU:au.size<=80000:=Nat.le_trans (Nat.le_trans pU (Nat.mul_le_mul (show 5*aP f+3*f.length+10<=475 by omega) (show St.aR f<=95 by omega))) (by decide);have cL:=aa (aK de.out hk5 (λ_ e=>.inl e));obtain⟨Q,hQ,hG5⟩:∃Q,Q+1<=P+2+300*(qn+1)/\bm w5 B g Q:=⟨_,by omega,hG5⟩;have Tu:Q<=1000000:=by omega
   have jl:=aa hG5;obtain⟨dg,hdg⟩:∃dg:ByteArray,(⟨(Lib.decDigits i).toArray⟩:ByteArray)=dg:=⟨_,rfl⟩;have U8:dg.size=1:=by rw[<-hdg];exact Gb (by omega)
   clear hG5 hk5 eM de HIT hbl yg;go_wp2_with fail;refine(pg i w5 (by omega)).mono ?_;rintro e w6 ⟨rfl,dz⟩;rw[hdg];have pC:=aa (jl.out.ah dz);have dO:=aa (bE cL.out dz);clear dz jl cL;go_wp2_with fail;refine(bN B g Q 3 _ (pC.out.ah ((ac.refl _).alloc (.cells #[VE ⟨#[]⟩,VE ⟨#[35,120,10]⟩,VE ⟨#[10]⟩] 9))) (by omega) (by omega) (by omega)).mono ?_;rintro e w7 ⟨r,rfl,hr,hG7,hk7⟩
   obtain⟨tb,fl,hts⟩:∃tb:ByteArray,(#[VE ⟨#[]⟩,VE ⟨#[35,120,10]⟩,VE ⟨#[10]⟩]:Array Value)[r]?=VN (VE tb)/\tb=Fk r:=by
    rcases(show r=0\/r=1\/r=2 by omega)with h|h|h<;>subst h<;>exact⟨_,rfl,rfl⟩
   have NH:=pC.out.lt;have hcell:=gB w6 w7 _ _ B g hk7 NH.1 NH.2 r _ fl;have u5:=aa hG7;have iN:=aa (aK (bE dO.out ((ac.refl _).alloc _)) hk7 (λ_ e=>.inl e));have Jk:=hk7.size;haveI:af w6.1.size w7:=af.of (cd _ _ hcell);have rA:tb.size<=3:=by rw[hts];exact L9 r
   have UF:r<3:=by omega
   clear hG7 hk7 pC dO fl hts hdg;go_wp2;refine⟨⟨i-1,qn+1,_,rfl,congrArg (VD VJ) (by omega),by omega,?_,u5.out.le (by omega),iN.out⟩,by simp[intOf];omega⟩;simp only[ByteArray.size_append]
   show _+(1+_+1+_+1+_)<=_
   omega
  have z:¬(0:Int)<(i:Int):=by omega
  have hlen:qn=m:=by omega
  go_wp2;go_ret;exact⟨data,rfl,by omega,HG.out.le (by omega),HK.out⟩
end
section
def OE(aN:Nat):List UInt8:=if aN=0 then[]else if aN=1 then[55,44]else[120,44]
def Lf(aN:Nat):List UInt8:=if aN=0 then[]else if aN=1 then[]else[44,34,121,34]
def fN(aN:Nat):ByteArray:=⟨(OE aN).toArray⟩
def jr(aN:Nat):ByteArray:=⟨(Lf aN).toArray⟩
theorem ov(aN:Nat):(fN aN).size<=2:=by unfold fN OE;split;decide;split<;>decide
theorem ma(aN:Nat):(jr aN).size<=4:=by unfold jr Lf;split;decide;split<;>decide
def Pg(w:VO)(B g P n aN:Nat)(s7 s9:Value)(wr:VO):Prop:=
 ∃(i k:Nat) (data:ByteArray),s7=VE data/\s9=VD VJ i/\k+i<=n/\data.size<=12+90000*k/\bm wr B g (P+2+300*k)/\w.grownBy wr (VN g)
def QF(data au:ByteArray)(aN:Nat):List ek:=[
 λv _=>v=VE data,
 λv W=>∃b,v=VF (VN ⟨b,0,VM⟩) 3 3/\b<W.1.size/\∀r,r<3->W.cell? ⟨b,r,VM⟩=VN (VE (fN r)),
 λv _=>v=VD VJ aN,
 λv W=>∃b,v=VH (VN ⟨b,aN,VM⟩)/\b<W.1.size/\W.cell? ⟨b,aN,VM⟩=VN (VE (fN aN)),
 λv _=>v=VE (fN aN),
 λv _=>v=VE ((⟨#[10]⟩:ByteArray)++fN aN),
 λv _=>v=VE ((⟨#[10]⟩:ByteArray)++fN aN++(⟨#[34]⟩:ByteArray)),
 λv _=>v=VE au,
 λv _=>v=VE ((⟨#[10]⟩:ByteArray)++fN aN++(⟨#[34]⟩:ByteArray)++au),
 λv _=>v=VE ((⟨#[10]⟩:ByteArray)++fN aN++(⟨#[34]⟩:ByteArray)++au++(⟨#[34]⟩:ByteArray)),
 λv W=>∃b,v=VF (VN ⟨b,0,VM⟩) 3 3/\b<W.1.size/\∀r,r<3->W.cell? ⟨b,r,VM⟩=VN (VE (jr r)),
 λv _=>v=VD VJ aN,
 λv W=>∃b,v=VH (VN ⟨b,aN,VM⟩)/\b<W.1.size/\W.cell? ⟨b,aN,VM⟩=VN (VE (jr aN)),
 λv _=>v=VE (jr aN),
 λv _=>v=VE ((⟨#[10]⟩:ByteArray)++fN aN++(⟨#[34]⟩:ByteArray)++au++(⟨#[34]⟩:ByteArray)++jr aN),
 λv _=>v=VE (data++((⟨#[10]⟩:ByteArray)++fN aN++(⟨#[34]⟩:ByteArray)++au++(⟨#[34]⟩:ByteArray)++jr aN)),
 λv _=>v=VE (data++((⟨#[10]⟩:ByteArray)++fN aN++(⟨#[34]⟩:ByteArray)++au++(⟨#[34]⟩:ByteArray)++jr aN))]
theorem EQ(B g P n:Nat)(w:VO)(hG:bm w B g P)(hP:P<=10000)(hn:n<=10) :
  Calls Tryz.prog 100 #[VH (VN ⟨g,0,VM⟩),VD VJ 3,VD VJ n] w λe w'=>∃data:ByteArray,e=VL (VE data)/\data.size<=12+90000*n/\bm w' B g (P+2+300*n)/\w.grownBy w' (VN g):=by
 have HG:=aa hG;obtain⟨jD,hB⟩:=hG.lt;clear hG;go_enter Tryz.func100,Tryz.ntmps100;go_wp2_with fail;refine(bN B g P 3 _ (HG.out.ah ((ac.refl _).alloc (.cells #[VE ⟨#[116,101,120,116]⟩,VE ⟨#[105,100,44,116,101,120,116]⟩,VE ⟨#[34,97,44,98,34,44,116,101,120,116,44,99]⟩] 9))) (by omega) (by omega) (by omega)).mono ?_;rintro e w2 ⟨r,rfl,hr,hG2,hk2⟩
 obtain⟨hb,hhb,hhs,hhq⟩:∃hb:ByteArray,(#[VE ⟨#[116,101,120,116]⟩,VE ⟨#[105,100,44,116,101,120,116]⟩,VE ⟨#[34,97,44,98,34,44,116,101,120,116,44,99]⟩]:Array Value)[r]?=VN (VE hb)/\hb.size<=12/\((hb.size:Int) / 6=r):=by
  rcases(show r=0\/r=1\/r=2 by omega)with h|h|h<;>subst h<;>exact⟨_,rfl,by decide,rfl⟩
 have hcell:=gB w w2 _ _ B g hk2 jD hB r _ hhb;have HG2:=aa hG2;have fQ:=aa (aK (((ac.refl w).alloc _).gb (VN g)) hk2 (λ_ e=>.inl e));have kc:=fQ.out.size;haveI:af w.1.size w2:=af.of (cd _ _ hcell);have hr3:r<3:=by omega
 obtain⟨aN,hcol⟩:∃aN,aN=r:=⟨_,rfl⟩;clear hG2 hk2 HG hhb;go_wp2_with fail;refine(bN B g _ ((n:Int)+1) _ HG2.out (by omega) (by omega) (by omega)).mono ?_;rintro e w3 ⟨m,rfl,hm,hG3,hk3⟩;have gJ:=aa hG3;have ff:=aa (aK fQ.out hk3 (λ_ e=>.inl e));clear hG3 hk3 HG2 fQ hcell;rw[<-hcol]at hr3 |-;clear hcol hr;go_wp2_with fail;go_loopw [7,9] (λs7 s9 wr=>Pg w B g P n aN s7 s9 wr) (λ_ s9 _=>(intOf s9).toNat)
 case atStart=>exact⟨m,0,hb,rfl,rfl,by omega,by omega,gJ.out.le (by omega),ff.out⟩
 case round=>
  clear gJ ff;obtain⟨i,k,data,rfl,rfl,ye,hds,hG,hk⟩:=hrel;have HG:=aa hG;have HK:=aa hk;have Ba:=hk.size;clear hG hk
  by_cases hi:0<i
  ·have z:(0:Int)<(i:Int):=by omega
   go_wp2_with fail;refine(Aw B g _ 5 _ HG.out (by omega) (by omega)).mono ?_;rintro e w4 ⟨v,f,rfl,ho,hgd,hfl,hft,hG4,hk4⟩;obtain⟨A4,c4,rfl,h41,h42,_⟩:=aJ ho;have eM:=aa hG4;have de:=aa (aK HK.out hk4 (λ_ e=>.inl e));have hit:=aM ho rfl;have hbl:=λb off (e:A4=VN ⟨b,off,VM⟩)=>ax ho b (by subst e;rfl)
   have HIT:=aa hit;clear hG4 hk4 ho hit hgd HG HK;go_wp2_with fail;have yg:=fW f;refine(sw 3 (.inr (.inr rfl)) B g _ (5*aP f+3*f.length+10) (St.aR f) A4 f.length c4 f _ eM.out (by omega) rfl HIT.out (λb off e=>by have:=hbl b off e;omega) (by omega) (by omega) rfl rfl).mono ?_;rintro e w5 ⟨au,rfl,pU,hG5,hk5⟩;have pU:au.size<=80000:=Nat.le_trans (Nat.le_trans pU (Nat.mul_le_mul (show 5*aP f+3*f.length+10<=475 by omega) (show St.aR f<=95 by omega))) (by decide);have jl:=aa (hG5.le (show _<=P+2+300*(k+1)by omega));have cL:=aa (aK de.out hk5 (λ_ e=>.inl e));clear hG5 hk5 eM de HIT hbl yg;go_wp2_with fail;refine bt (λa b=>ac a b) (λ_ _=>True) (QF data au aN) ac.refl (λa b c h k=>ac.trans h k) (by kernel_rfl) (by rfl) (by kernel_rfl) (by kernel_rfl) ?frD ?hfr ?hI ?hob ?hend
   case hfr=>
    intro ρ;simp only[bP,Act.put,ap,ak,aq,Nat.zero_add,Nat.reduceAdd];exact rfl
   case hI=>trivial
   case hob=>
    unfold QF;refine aj.cons (λρ L W hR hI hL hD hO hF K hK=>?_) ?_
    ·have eo:ρ 16=VE data:=hO 16 _ 7 rfl rfl (hD.not (p:=16) rfl (by decide) hL);clear hF hD hO hI hL hR;simp only[Act.put,ap,ak,aq]at hK |-;rw[eo]at hK |-;go_simp;refine hK _ _ (ac.refl _) trivial (λW2 h2=>?_);rfl
    refine aj.cons (λρ L W hR hI hL hD hO hF K hK=>?_) ?_
    ·clear hF hD hO hI hL hR;simp only[Act.put,ap,ak,aq]at hK |-;go_simp;refine hK _ _ ((ac.refl W).alloc _) trivial (λW2 h2=>⟨W.1.size,rfl,by have:=h2.size;simp at this;omega,λr hr=>?_⟩);rw[h2.cell (p:=⟨W.1.size,r,VM⟩) (by simp),World.cell?_alloc_at _ _ _ _ rfl];rcases(show r=0\/r=1\/r=2 by omega)with h|h|h<;>subst h<;>rfl
    refine aj.cons (λρ L W hR hI hL hD hO hF K hK=>?_) ?_
    ·clear hF hD hO hI hL hR;simp only[Act.put,ap,ak,aq]at hK |-;go_simp;refine hK _ _ (ac.refl _) trivial (λW2 h2=>?_);rfl
    refine aj.cons (λρ L W hR hI hL hD hO hF K hK=>?_) ?_
    ·have f1:=ag hF (j:=1) (by decide);have f2:=ag hF (j:=2) (by decide);clear hF hD hO hI hL hR;simp only[Act.put,ap,ak,aq]at hK |-;obtain⟨b,e0,hb2,hc⟩:=f1;have e2:ρ 2=VD VJ aN:=f2;rw[e0,e2]at hK |-;have bK:aN<3:=by omega
     have z1:((aN:Nat):Int)<3:=by omega
     haveI:af b W:=af.of hb2;go_simp;refine hK _ _ (ac.refl _) trivial (λW2 h2=>?_);exact⟨b,rfl,Nat.lt_of_lt_of_le hb2 h2.size,(h2.cell hb2).trans (hc _ bK)⟩
    refine aj.cons (λρ L W hR hI hL hD hO hF K hK=>?_) ?_
    ·have f3:=ag hF (j:=3) (by decide);clear hF hD hO hI hL hR;simp only[Act.put,ap,ak,aq]at hK |-;obtain⟨b,e3,hb2,hc⟩:=f3;rw[e3]at hK |-;go_simp;refine hK _ _ (ac.refl _) trivial (λW2 h2=>?_);rfl
    refine aj.cons (λρ L W hR hI hL hD hO hF K hK=>?_) ?_
    ·have f4:=ag hF (j:=4) (by decide);clear hF hD hO hI hL hR;simp only[Act.put,ap,ak,aq]at hK |-;have e4:ρ 4=VE (fN aN):=f4;rw[e4]at hK |-;have h1:=ov aN;have h2:=ma aN;have y1:¬9223372036854775807<1+(fN aN).size:=by omega
     go_simp;refine hK _ _ (ac.refl _) trivial (λW2 h2=>?_);rfl
    refine aj.cons (λρ L W hR hI hL hD hO hF K hK=>?_) ?_
    ·have f5:=ag hF (j:=5) (by decide);clear hF hD hO hI hL hR;simp only[Act.put,ap,ak,aq]at hK |-;have e5:ρ 5=VE ((⟨#[10]⟩:ByteArray)++fN aN):=f5;rw[e5]at hK |-;have h1:=ov aN;have h2:=ma aN;have y1:¬9223372036854775807<1+(fN aN).size+1:=by omega
     go_simp;refine hK _ _ (ac.refl _) trivial (λW2 h2=>?_);rfl
    refine aj.cons (λρ L W hR hI hL hD hO hF K hK=>?_) ?_
    ·clear hF hD hO hI hL hR;simp only[Act.put,ap,ak,aq]at hK |-;go_simp;refine hK _ _ (ac.refl _) trivial (λW2 h2=>?_);rfl
    refine aj.cons (λρ L W hR hI hL hD hO hF K hK=>?_) ?_
    ·have f6:=ag hF (j:=6) (by decide);have f7:=ag hF (j:=7) (by decide);clear hF hD hO hI hL hR;simp only[Act.put,ap,ak,aq]at hK |-;have e6:ρ 6=VE ((⟨#[10]⟩:ByteArray)++fN aN++(⟨#[34]⟩:ByteArray)):=f6;have e7:ρ 7=VE au:=f7;rw[e6,e7]at hK |-;have h1:=ov aN;have h2:=ma aN;have y1:¬9223372036854775807<1+(fN aN).size+1+au.size:=by omega
     go_simp;refine hK _ _ (ac.refl _) trivial (λW2 h2=>?_);rfl
    refine aj.cons (λρ L W hR hI hL hD hO hF K hK=>?_) ?_
    ·have f8:=ag hF (j:=8) (by decide);clear hF hD hO hI hL hR;simp only[Act.put,ap,ak,aq]at hK |-;have e8:ρ 8=VE ((⟨#[10]⟩:ByteArray)++fN aN++(⟨#[34]⟩:ByteArray)++au):=f8;rw[e8]at hK |-;have h1:=ov aN;have h2:=ma aN;have y1:¬9223372036854775807<1+(fN aN).size+1+au.size+1:=by omega
     go_simp;refine hK _ _ (ac.refl _) trivial (λW2 h2=>?_);rfl
    refine aj.cons (λρ L W hR hI hL hD hO hF K hK=>?_) ?_
    ·clear hF hD hO hI hL hR;simp only[Act.put,ap,ak,aq]at hK |-;go_simp;refine hK _ _ ((ac.refl W).alloc _) trivial (λW2 h2=>⟨W.1.size,rfl,by have:=h2.size;simp at this;omega,λr hr=>?_⟩);rw[h2.cell (p:=⟨W.1.size,r,VM⟩) (by simp),World.cell?_alloc_at _ _ _ _ rfl];rcases(show r=0\/r=1\/r=2 by omega)with h|h|h<;>subst h<;>rfl
    refine aj.cons (λρ L W hR hI hL hD hO hF K hK=>?_) ?_
    ·clear hF hD hO hI hL hR;simp only[Act.put,ap,ak,aq]at hK |-;go_simp;refine hK _ _ (ac.refl _) trivial (λW2 h2=>?_);rfl
    refine aj.cons (λρ L W hR hI hL hD hO hF K hK=>?_) ?_
    ·have f10:=ag hF (j:=10) (by decide);have f11:=ag hF (j:=11) (by decide);clear hF hD hO hI hL hR;simp only[Act.put,ap,ak,aq]at hK |-;obtain⟨b,e0,hb2,hc⟩:=f10;have e2:ρ 11=VD VJ aN:=f11;rw[e0,e2]at hK |-;have bK:aN<3:=by omega
     have z1:((aN:Nat):Int)<3:=by omega
     haveI:af b W:=af.of hb2;go_simp;refine hK _ _ (ac.refl _) trivial (λW2 h2=>?_);exact⟨b,rfl,Nat.lt_of_lt_of_le hb2 h2.size,(h2.cell hb2).trans (hc _ bK)⟩
    refine aj.cons (λρ L W hR hI hL hD hO hF K hK=>?_) ?_
    ·have f12:=ag hF (j:=12) (by decide);clear hF hD hO hI hL hR;simp only[Act.put,ap,ak,aq]at hK |-;obtain⟨b,e3,hb2,hc⟩:=f12;rw[e3]at hK |-;go_simp;refine hK _ _ (ac.refl _) trivial (λW2 h2=>?_);rfl
    refine aj.cons (λρ L W hR hI hL hD hO hF K hK=>?_) ?_
    ·have f9:=ag hF (j:=9) (by decide);have f13:=ag hF (j:=13) (by decide);clear hF hD hO hI hL hR;simp only[Act.put,ap,ak,aq]at hK |-;have e9:ρ 9=VE ((⟨#[10]⟩:ByteArray)++fN aN++(⟨#[34]⟩:ByteArray)++au++(⟨#[34]⟩:ByteArray)):=f9;have Gg:ρ 13=VE (jr aN):=f13;rw[e9,Gg]at hK |-;have h1:=ov aN;have h2:=ma aN;have y1:¬9223372036854775807<1+(fN aN).size+1+au.size+1+(jr aN).size:=by omega
     go_simp;refine hK _ _ (ac.refl _) trivial (λW2 h2=>?_);rfl
    refine aj.cons (λρ L W hR hI hL hD hO hF K hK=>?_) ?_
    ·have f0:=ag hF (j:=0) (by decide);have f14:=ag hF (j:=14) (by decide);clear hF hD hO hI hL hR;simp only[Act.put,ap,ak,aq]at hK |-;have e0:ρ 0=VE data:=f0;have Ak:ρ 14=VE ((⟨#[10]⟩:ByteArray)++fN aN++(⟨#[34]⟩:ByteArray)++au++(⟨#[34]⟩:ByteArray)++jr aN):=f14;rw[e0,Ak]at hK |-;have h1:=ov aN;have h2:=ma aN;have y1:¬9223372036854775807<data.size+(1+(fN aN).size+1+au.size+1+(jr aN).size):=by omega
     go_simp;refine hK _ _ (ac.refl _) trivial (λW2 h2=>?_);rfl
    refine aj.cons (λρ L W hR hI hL hD hO hF K hK=>?_) ?_
    ·have f15:=ag hF (j:=15) (by decide);clear hF hD hO hI hL hR;simp only[Act.put,ap,ak,aq]at hK |-;have Gh:ρ 15=VE (data++((⟨#[10]⟩:ByteArray)++fN aN++(⟨#[34]⟩:ByteArray)++au++(⟨#[34]⟩:ByteArray)++jr aN)):=f15;rw[Gh]at hK |-;go_simp;refine hK _ _ (ac.refl _) trivial (λW2 h2=>?_);rfl
    exact aj.nil
   case hend=>
    intro ρ L W hR hI hL hF;obtain⟨_,_,_,_,_,_,_,_,_,_,_,_,_,_,_,_,  e16,_⟩:=hF;have e16:ρ 16=VE (data++((⟨#[10]⟩:ByteArray)++fN aN++(⟨#[34]⟩:ByteArray)++au++(⟨#[34]⟩:ByteArray)++jr aN)):=e16;clear hI hL;rw[e16];have dz:=aa (bE cL.out ((ac.refl _).drew.trans hR));have KV:=aa (jl.out.ah ((ac.refl _).drew.trans hR));clear hR e16;go_wp2;refine⟨⟨i-1,k+1,_,rfl,congrArg (VD VJ) (by omega),by omega,?_,KV.out.le (by omega),dz.out⟩,by simp[intOf];omega⟩;have h1:=ov aN;have h2:=ma aN;simp only[ByteArray.size_append]
    show _+(1+_+1+_+1+_)<=_
    omega
  have z:¬(0:Int)<(i:Int):=by omega
  go_wp2;go_ret;exact⟨data,rfl,by omega,HG.out.le (by omega),HK.out⟩
end
section
def F3(r:Nat):List UInt8:=if r=0 then[]else[32,99,61,34,49,34]
def Ij(r:Nat):List UInt8:=if r=0 then[]else if r=1 then[10]else[60,104,114,47,62]
def fA(q:Nat):ByteArray:=⟨(F3 q).toArray⟩
theorem jR(q:Nat):(fA q).size<=6:=by unfold fA F3;split<;>decide
def km(r:Nat):ByteArray:=⟨(Ij r).toArray⟩
theorem sT(r:Nat):(km r).size<=5:=by unfold km Ij;split;decide;split<;>decide
def Pe(w:VO)(B g P m:Nat)(s7 s9:Value)(wr:VO):Prop:=
 ∃(i qn:Nat) (data:ByteArray),s7=VE data/\s9=VD VJ i/\qn+i=m/\data.size<=13+90000*qn/\bm wr B g (P+2+400*qn)/\w.grownBy wr (VN g)
theorem EO(B g P n:Nat)(w:VO)(hG:bm w B g P)(hP:P<=10000)(hn:n<=9) :
  Calls Tryz.prog 100 #[VH (VN ⟨g,0,VM⟩),VD VJ 1,VD VJ n] w λe w'=>∃data:ByteArray,e=VL (VE data)/\data.size<=13+90000*n/\bm w' B g (P+2+400*n)/\w.grownBy w' (VN g):=by
 have HG:=aa hG;obtain⟨jD,hB⟩:=hG.lt;clear hG;go_enter Tryz.func100,Tryz.ntmps100;go_wp2_with fail;refine(bN B g P 3 _ (HG.out.ah ((ac.refl _).alloc (.cells #[VE ⟨#[]⟩,VE ⟨#[60,104,116,109,108,62]⟩,VE ⟨#[60,33,45,45,32,60,112,62,32,45,45,62,120]⟩] 9))) (by omega) (by omega) (by omega)).mono ?_;rintro e w2 ⟨r,rfl,hr,hG2,hk2⟩
 obtain⟨hb,hhb,hhs⟩:∃hb:ByteArray,(#[VE ⟨#[]⟩,VE ⟨#[60,104,116,109,108,62]⟩,VE ⟨#[60,33,45,45,32,60,112,62,32,45,45,62,120]⟩]:Array Value)[r]?=VN (VE hb)/\hb.size<=13:=by
  rcases(show r=0\/r=1\/r=2 by omega)with h|h|h<;>subst h<;>exact⟨_,rfl,by decide⟩
 have hcell:=gB w w2 _ _ B g hk2 jD hB r _ hhb;have HG2:=aa hG2;have fQ:=aa (aK (((ac.refl w).alloc _).gb (VN g)) hk2 (λ_ e=>.inl e));have kc:=fQ.out.size;haveI:af w.1.size w2:=af.of (cd _ _ hcell);have hr3:r<3:=by omega
 clear hG2 hk2 HG hhb;go_wp2_with fail;refine(bN B g _ ((n:Int)+1) _ HG2.out (by omega) (by omega) (by omega)).mono ?_;rintro e w3 ⟨m,rfl,hm,hG3,hk3⟩;have gJ:=aa hG3;have ff:=aa (aK fQ.out hk3 (λ_ e=>.inl e));clear hG3 hk3 HG2 fQ hcell;clear hr;go_wp2_with fail;go_loopw [7,9] (λs7 s9 wr=>Pe w B g P m s7 s9 wr) (λ_ s9 _=>(intOf s9).toNat)
 case atStart=>exact⟨m,0,hb,rfl,rfl,by omega,by omega,gJ.out.le (by omega),ff.out⟩
 case round=>
  clear gJ ff;obtain⟨i,qn,data,rfl,rfl,ye,hds,hG,hk⟩:=hrel;have HG:=aa hG;have HK:=aa hk;have Ba:=hk.size;clear hG hk
  by_cases hi:0<i
  ·have z:(0:Int)<(i:Int):=by omega
   go_wp2_with fail;refine(xV B g _ 5 _ HG.out (by omega) (by omega)).mono ?_;rintro e w4 ⟨v,f,cc,rfl,ho,hgt,hfl,hft,hcn,hG4,hk4⟩;obtain⟨A4,c4,rfl,h41,h42,_⟩:=aJ ho;have eM:=aa hG4;have de:=aa (aK HK.out hk4 (λ_ e=>.inl e));have hit:=aM ho rfl;have hbl:=λb off (e:A4=VN ⟨b,off,VM⟩)=>ax ho b (by subst e;rfl)
   have HIT:=aa hit;clear hG4 hk4 ho hit hgt HG HK;go_wp2_with fail;have yg:=fW f;refine(sw 1 (.inl rfl) B g _ (5*aP f+3*f.length+10) (St.aR f) A4 f.length c4 f _ eM.out (by omega) rfl HIT.out (λb off e=>by have:=hbl b off e;omega) (by omega) (by omega) rfl rfl).mono ?_;rintro e w5 ⟨au,rfl,pU,hG5,hk5⟩;have pU:au.size<=80000:=Nat.le_trans (Nat.le_trans pU (Nat.mul_le_mul (show 5*aP f+3*f.length+10<=615 by omega) (show St.aR f<=125 by omega))) (by decide);have cL:=aa (aK de.out hk5 (λ_ e=>.inl e));obtain⟨Q0,hQ,hG5⟩:∃Q,Q+3<=P+2+400*(qn+1)/\bm w5 B g Q:=⟨_,by omega,hG5⟩;have Tu:Q0<=1000000:=by omega
   have jl:=aa hG5;clear hG5 hk5 eM de HIT hbl yg;go_wp2_with fail;refine(bN B g Q0 3 _ (jl.out.ah ((ac.refl _).alloc (.cells #[VE ⟨#[112]⟩,VE ⟨#[108,105]⟩,VE ⟨#[116,105,116,108,101]⟩] 9))) (by omega) (by omega) (by omega)).mono ?_;rintro e w7 ⟨ni,rfl,hni,hG7,hk7⟩
   obtain⟨nm,aZ,hnms⟩:∃nm:ByteArray,(#[VE ⟨#[112]⟩,VE ⟨#[108,105]⟩,VE ⟨#[116,105,116,108,101]⟩]:Array Value)[ni]?=VN (VE nm)/\nm.size<=5:=by
    rcases(show ni=0\/ni=1\/ni=2 by omega)with h|h|h<;>subst h<;>exact⟨_,rfl,by decide⟩
   have NG:=jl.out.lt;have hcell:=gB w5 w7 _ _ B g hk7 NG.1 NG.2 ni _ aZ;have hnz:=hnms;have iN:=aa (aK (bE cL.out ((ac.refl _).alloc _)) hk7 (λ_ e=>.inl e));obtain⟨Q,hQ,hG7⟩:∃Q,Q=Q0+1/\bm w7 B g Q:=⟨_,rfl,hG7⟩;have u5:=aa hG7;have Jk:=hk7.size;haveI:af w5.1.size w7:=af.of (cd _ _ hcell);have Uo:=aa hnms;clear hG7 hk7 jl cL aZ hnms;go_wp2_with fail;refine bt (λa b=>a.grownBy b (VN g)) (λL W=>bm W B g (Q+(if L 5 then 1 else 0)+(if L 18 then 1 else 0))) [λv _=>v=VE data,λv _=>v=VE nm,λv _=>v=VE ((⟨#[60]⟩:ByteArray)++nm),λv W=>∃b,v=VF (VN ⟨b,0,VM⟩) 2 2/\B<=b/\b<W.1.size/\∀r,r<2->W.cell? ⟨b,r,VM⟩=VN (VE (fA r)),λv _=>v=VH (VN ⟨g,0,VM⟩),λv _=>∃r:Nat,r<2/\v=VD VJ r,λv W=>∃b r,r<2/\B<=b/\b<W.1.size/\v=VH (VN ⟨b,r,VM⟩)/\W.cell? ⟨b,r,VM⟩=VN (VE (fA r)),λv _=>∃r:Nat,r<2/\v=VE (fA r),λv _=>∃q:Nat,q<2/\v=VE ((⟨#[60]⟩:ByteArray)++nm++fA q),λv _=>∃q:Nat,q<2/\v=VE ((⟨#[60]⟩:ByteArray)++nm++fA q++(⟨#[62]⟩:ByteArray)),λv _=>v=VE au,λv _=>∃q:Nat,q<2/\v=VE ((⟨#[60]⟩:ByteArray)++nm++fA q++(⟨#[62]⟩:ByteArray)++au),λv _=>∃q:Nat,q<2/\v=VE ((⟨#[60]⟩:ByteArray)++nm++fA q++(⟨#[62]⟩:ByteArray)++au++(⟨#[60,47]⟩:ByteArray)),λv _=>v=VE nm,λv _=>∃q:Nat,q<2/\v=VE ((⟨#[60]⟩:ByteArray)++nm++fA q++(⟨#[62]⟩:ByteArray)++au++(⟨#[60,47]⟩:ByteArray)++nm),λv _=>∃q:Nat,q<2/\v=VE ((⟨#[60]⟩:ByteArray)++nm++fA q++(⟨#[62]⟩:ByteArray)++au++(⟨#[60,47]⟩:ByteArray)++nm++(⟨#[62]⟩:ByteArray)),λv W=>∃b,v=VF (VN ⟨b,0,VM⟩) 3 3/\B<=b/\b<W.1.size/\∀r,r<3->W.cell? ⟨b,r,VM⟩=VN (VE (km r)),λv _=>v=VH (VN ⟨g,0,VM⟩),λv _=>∃r:Nat,r<3/\v=VD VJ r,λv W=>∃b r,r<3/\B<=b/\b<W.1.size/\v=VH (VN ⟨b,r,VM⟩)/\W.cell? ⟨b,r,VM⟩=VN (VE (km r)),λv _=>∃r:Nat,r<3/\v=VE (km r),λv _=>∃q r:Nat,q<2/\r<3/\v=VE ((⟨#[60]⟩:ByteArray)++nm++fA q++(⟨#[62]⟩:ByteArray)++au++(⟨#[60,47]⟩:ByteArray)++nm++(⟨#[62]⟩:ByteArray)++km r),λv _=>∃q r:Nat,q<2/\r<3/\v=VE (data++((⟨#[60]⟩:ByteArray)++nm++fA q++(⟨#[62]⟩:ByteArray)++au++(⟨#[60,47]⟩:ByteArray)++nm++(⟨#[62]⟩:ByteArray)++km r)),λv _=>∃q r:Nat,q<2/\r<3/\v=VE (data++((⟨#[60]⟩:ByteArray)++nm++fA q++(⟨#[62]⟩:ByteArray)++au++(⟨#[60,47]⟩:ByteArray)++nm++(⟨#[62]⟩:ByteArray)++km r))] (λa=>bh a _) (λa b c h k=>aK h k (λ_ e=>.inl e)) (by kernel_rfl) (by rfl) (by kernel_rfl) (by kernel_rfl) ?fr ?hfr ?hI ?hob ?hend
   case hfr=>
    intro ρ;simp only[bP,Act.put,ap,ak,aq,Nat.zero_add,Nat.reduceAdd];exact rfl
   case hI=>exact(u5.out.ah (by exact uZ)).le (by simp)
   case hob=>
    refine aj.cons (λρ L W hR hI hL hD hO hF K hK=>?_) ?_
    ·have du:g<W.1.size:=Nat.lt_of_lt_of_le hI.lt.1 hI.lt.2;have dF:=hI.lt.2;have eo:ρ 23=VE data:=hO 23 _ 7 rfl rfl (hD.not (p:=23) rfl (by decide) hL);clear hF hD hO;simp only[Act.put,ap,ak,aq]at hK |-;rw[eo]at hK |-;go_simp;refine hK _ _ (bh _ _) (by simpa[ar]using hI) (λW2 h2=>?_);rfl
    refine aj.cons (λρ L W hR hI hL hD hO hF K hK=>?_) ?_
    ·have du:g<W.1.size:=Nat.lt_of_lt_of_le hI.lt.1 hI.lt.2;have dF:=hI.lt.2;clear hF hD hO;simp only[Act.put,ap,ak,aq]at hK |-;go_simp;refine hK _ _ (bh _ _) (by simpa[ar]using hI) (λW2 h2=>?_);rfl
    refine aj.cons (λρ L W hR hI hL hD hO hF K hK=>?_) ?_
    ·have du:g<W.1.size:=Nat.lt_of_lt_of_le hI.lt.1 hI.lt.2;have dF:=hI.lt.2;have f1:=ag hF (j:=1) (by decide);clear hF hD hO;simp only[Act.put,ap,ak,aq]at hK |-;have e1:ρ 1=VE nm:=f1;rw[e1]at hK |-;have y1:¬9223372036854775807<1+nm.size:=by omega
     go_simp;refine hK _ _ (bh _ _) (by simpa[ar]using hI) (λW2 h2=>?_);rfl
    refine aj.cons (λρ L W hR hI hL hD hO hF K hK=>?_) ?_
    ·have du:g<W.1.size:=Nat.lt_of_lt_of_le hI.lt.1 hI.lt.2;have dF:=hI.lt.2;clear hF hD hO;simp only[Act.put,ap,ak,aq]at hK |-;go_simp;refine hK _ _ (((ac.refl W).alloc _).gb _) (by simpa[ar]using hI.ah ((ac.refl W).alloc _)) (λW2 h2=>⟨W.1.size,rfl,dF,by have:=h2.size;simp at this;omega,λr hr=>?_⟩);rw[dc h2 (p:=⟨W.1.size,r,VM⟩) (by simp) (by simp;omega),World.cell?_alloc_at _ _ _ _ rfl];rcases(show r=0\/r=1 by omega)with h|h<;>subst h<;>rfl
    refine aj.cons (λρ L W hR hI hL hD hO hF K hK=>?_) ?_
    ·have du:g<W.1.size:=Nat.lt_of_lt_of_le hI.lt.1 hI.lt.2;have dF:=hI.lt.2;clear hF hD hO;simp only[Act.put,ap,ak,aq]at hK |-;go_simp;refine hK _ _ (bh _ _) (by simpa[ar]using hI) (λW2 h2=>?_);rfl
    refine aj.cons (λρ L W hR hI hL hD hO hF K hK=>?_) ?_
    ·have du:g<W.1.size:=Nat.lt_of_lt_of_le hI.lt.1 hI.lt.2;have dF:=hI.lt.2;have f4:=ag hF (j:=4) (by decide);clear hF hD hO;simp only[Act.put,ap,ak,aq]at hK |-;have e4:ρ 4=VH (VN ⟨g,0,VM⟩):=f4;rw[e4]at hK |-;have NI:bm W B g (Q+(if L 18 then 1 else 0)):=hI.le (by simp[hL]);refine j2 (o:=⟨VN 81,_,_,_,_,_⟩) rfl 64 #[VH (VN ⟨g,0,VM⟩),VD VJ 2] _ (bN B g (Q+(if L 18 then 1 else 0)) 2 W NI (by split<;>omega) (by omega) (by omega)) ?_ ?_
     ·go_simp
     rintro e W2 ⟨r,rfl,hr,hG2,hk⟩;exact⟨_,rfl,hK _ _ hk (hG2.le (by simp[ar];try omega)) (λW3 h3=>⟨r,by omega,rfl⟩)⟩
    refine aj.cons (λρ L W hR hI hL hD hO hF K hK=>?_) ?_
    ·have du:g<W.1.size:=Nat.lt_of_lt_of_le hI.lt.1 hI.lt.2;have dF:=hI.lt.2;have f3:=ag hF (j:=3) (by decide);have f5:=ag hF (j:=5) (by decide);clear hF hD hO;simp only[Act.put,ap,ak,aq]at hK |-;obtain⟨b,e0,hb1,hb2,hc⟩:=f3;obtain⟨r,hr,e2⟩:=f5;rw[e0,e2]at hK |-;have z1:(r:Int)<2:=by omega
     haveI:af b W:=af.of hb2;go_simp;refine hK _ _ (bh _ _) (by simpa[ar]using hI) (λW2 h2=>?_);have hc2:=(dc h2 (p:=⟨b,r,VM⟩) hb2 (by simp;omega)).trans (hc r hr);exact⟨b,r,hr,hb1,Nat.lt_of_lt_of_le hb2 h2.size,rfl,hc2⟩
    refine aj.cons (λρ L W hR hI hL hD hO hF K hK=>?_) ?_
    ·have du:g<W.1.size:=Nat.lt_of_lt_of_le hI.lt.1 hI.lt.2;have dF:=hI.lt.2;have f6:=ag hF (j:=6) (by decide);clear hF hD hO;simp only[Act.put,ap,ak,aq]at hK |-;obtain⟨b,r,hr,hb1,hb2,e3,hc⟩:=f6;rw[e3]at hK |-;haveI:af b W:=af.of hb2;go_simp;refine hK _ _ (bh _ _) (by simpa[ar]using hI) (λW2 h2=>?_);exact⟨r,hr,rfl⟩
    refine aj.cons (λρ L W hR hI hL hD hO hF K hK=>?_) ?_
    ·have du:g<W.1.size:=Nat.lt_of_lt_of_le hI.lt.1 hI.lt.2;have dF:=hI.lt.2;have f2:=ag hF (j:=2) (by decide);have f7:=ag hF (j:=7) (by decide);clear hF hD hO;simp only[Act.put,ap,ak,aq]at hK |-;have e2:ρ 2=VE ((⟨#[60]⟩:ByteArray)++nm):=f2;obtain⟨q,hq,e7⟩:=f7;rw[e2,e7]at hK |-;have pT:=jR q;have y1:¬9223372036854775807<1+nm.size+(fA q).size:=by omega
     go_simp;refine hK _ _ (bh _ _) (by simpa[ar]using hI) (λW2 h2=>?_);exact⟨q,hq,rfl⟩
    refine aj.cons (λρ L W hR hI hL hD hO hF K hK=>?_) ?_
    ·have du:g<W.1.size:=Nat.lt_of_lt_of_le hI.lt.1 hI.lt.2;have dF:=hI.lt.2;have f8:=ag hF (j:=8) (by decide);clear hF hD hO;simp only[Act.put,ap,ak,aq]at hK |-;obtain⟨q,hq,e8⟩:=f8;rw[e8]at hK |-;have pT:=jR q;have y1:¬9223372036854775807<1+nm.size+(fA q).size+1:=by omega
     go_simp;refine hK _ _ (bh _ _) (by simpa[ar]using hI) (λW2 h2=>?_);exact⟨q,hq,rfl⟩
    refine aj.cons (λρ L W hR hI hL hD hO hF K hK=>?_) ?_
    ·have du:g<W.1.size:=Nat.lt_of_lt_of_le hI.lt.1 hI.lt.2;have dF:=hI.lt.2;clear hF hD hO;simp only[Act.put,ap,ak,aq]at hK |-;go_simp;refine hK _ _ (bh _ _) (by simpa[ar]using hI) (λW2 h2=>?_);rfl
    refine aj.cons (λρ L W hR hI hL hD hO hF K hK=>?_) ?_
    ·have du:g<W.1.size:=Nat.lt_of_lt_of_le hI.lt.1 hI.lt.2;have dF:=hI.lt.2;have f9:=ag hF (j:=9) (by decide);have f10:=ag hF (j:=10) (by decide);clear hF hD hO;simp only[Act.put,ap,ak,aq]at hK |-;obtain⟨q,hq,e9⟩:=f9;have e10:ρ 10=VE au:=f10;rw[e9,e10]at hK |-;have pT:=jR q;have y1:¬9223372036854775807<1+nm.size+(fA q).size+1+au.size:=by omega
     go_simp;refine hK _ _ (bh _ _) (by simpa[ar]using hI) (λW2 h2=>?_);exact⟨q,hq,rfl⟩
    refine aj.cons (λρ L W hR hI hL hD hO hF K hK=>?_) ?_
    ·have du:g<W.1.size:=Nat.lt_of_lt_of_le hI.lt.1 hI.lt.2;have dF:=hI.lt.2;have f11:=ag hF (j:=11) (by decide);clear hF hD hO;simp only[Act.put,ap,ak,aq]at hK |-;obtain⟨q,hq,e11⟩:=f11;rw[e11]at hK |-;have pT:=jR q;have y1:¬9223372036854775807<1+nm.size+(fA q).size+1+au.size+2:=by omega
     go_simp;refine hK _ _ (bh _ _) (by simpa[ar]using hI) (λW2 h2=>?_);exact⟨q,hq,rfl⟩
    refine aj.cons (λρ L W hR hI hL hD hO hF K hK=>?_) ?_
    ·have du:g<W.1.size:=Nat.lt_of_lt_of_le hI.lt.1 hI.lt.2;have dF:=hI.lt.2;clear hF hD hO;simp only[Act.put,ap,ak,aq]at hK |-;go_simp;refine hK _ _ (bh _ _) (by simpa[ar]using hI) (λW2 h2=>?_);rfl
    refine aj.cons (λρ L W hR hI hL hD hO hF K hK=>?_) ?_
    ·have du:g<W.1.size:=Nat.lt_of_lt_of_le hI.lt.1 hI.lt.2;have dF:=hI.lt.2;have f12:=ag hF (j:=12) (by decide);have f13:=ag hF (j:=13) (by decide);clear hF hD hO;simp only[Act.put,ap,ak,aq]at hK |-;obtain⟨q,hq,e12⟩:=f12;have Gg:ρ 13=VE nm:=f13;rw[e12,Gg]at hK |-;have pT:=jR q;have y1:¬9223372036854775807<1+nm.size+(fA q).size+1+au.size+2+nm.size:=by omega
     go_simp;refine hK _ _ (bh _ _) (by simpa[ar]using hI) (λW2 h2=>?_);exact⟨q,hq,rfl⟩
    refine aj.cons (λρ L W hR hI hL hD hO hF K hK=>?_) ?_
    ·have du:g<W.1.size:=Nat.lt_of_lt_of_le hI.lt.1 hI.lt.2;have dF:=hI.lt.2;have f14:=ag hF (j:=14) (by decide);clear hF hD hO;simp only[Act.put,ap,ak,aq]at hK |-;obtain⟨q,hq,Ak⟩:=f14;rw[Ak]at hK |-;have pT:=jR q;have y1:¬9223372036854775807<1+nm.size+(fA q).size+1+au.size+2+nm.size+1:=by omega
     go_simp;refine hK _ _ (bh _ _) (by simpa[ar]using hI) (λW2 h2=>?_);exact⟨q,hq,rfl⟩
    refine aj.cons (λρ L W hR hI hL hD hO hF K hK=>?_) ?_
    ·have du:g<W.1.size:=Nat.lt_of_lt_of_le hI.lt.1 hI.lt.2;have dF:=hI.lt.2;clear hF hD hO;simp only[Act.put,ap,ak,aq]at hK |-;go_simp;refine hK _ _ (((ac.refl W).alloc _).gb _) (by simpa[ar]using hI.ah ((ac.refl W).alloc _)) (λW2 h2=>⟨W.1.size,rfl,dF,by have:=h2.size;simp at this;omega,λr hr=>?_⟩);rw[dc h2 (p:=⟨W.1.size,r,VM⟩) (by simp) (by simp;omega),World.cell?_alloc_at _ _ _ _ rfl];rcases(show r=0\/r=1\/r=2 by omega)with h|h|h<;>subst h<;>rfl
    refine aj.cons (λρ L W hR hI hL hD hO hF K hK=>?_) ?_
    ·have du:g<W.1.size:=Nat.lt_of_lt_of_le hI.lt.1 hI.lt.2;have dF:=hI.lt.2;clear hF hD hO;simp only[Act.put,ap,ak,aq]at hK |-;go_simp;refine hK _ _ (bh _ _) (by simpa[ar]using hI) (λW2 h2=>?_);rfl
    refine aj.cons (λρ L W hR hI hL hD hO hF K hK=>?_) ?_
    ·have du:g<W.1.size:=Nat.lt_of_lt_of_le hI.lt.1 hI.lt.2;have dF:=hI.lt.2;have f17:=ag hF (j:=17) (by decide);clear hF hD hO;simp only[Act.put,ap,ak,aq]at hK |-;have e17:ρ 17=VH (VN ⟨g,0,VM⟩):=f17;rw[e17]at hK |-;have NI:bm W B g (Q+(if L 5 then 1 else 0)):=hI.le (by simp[hL]);refine j2 (o:=⟨VN 94,_,_,_,_,_⟩) rfl 64 #[VH (VN ⟨g,0,VM⟩),VD VJ 3] _ (bN B g (Q+(if L 5 then 1 else 0)) 3 W NI (by split<;>omega) (by omega) (by omega)) ?_ ?_
     ·go_simp
     rintro e W2 ⟨r,rfl,hr,hG2,hk⟩;exact⟨_,rfl,hK _ _ hk (hG2.le (by simp[ar];try omega)) (λW3 h3=>⟨r,by omega,rfl⟩)⟩
    refine aj.cons (λρ L W hR hI hL hD hO hF K hK=>?_) ?_
    ·have du:g<W.1.size:=Nat.lt_of_lt_of_le hI.lt.1 hI.lt.2;have dF:=hI.lt.2;have f16:=ag hF (j:=16) (by decide);have f18:=ag hF (j:=18) (by decide);clear hF hD hO;simp only[Act.put,ap,ak,aq]at hK |-;obtain⟨b,e0,hb1,hb2,hc⟩:=f16;obtain⟨r,hr,e2⟩:=f18;rw[e0,e2]at hK |-;have z1:(r:Int)<3:=by omega
     haveI:af b W:=af.of hb2;go_simp;refine hK _ _ (bh _ _) (by simpa[ar]using hI) (λW2 h2=>?_);have hc2:=(dc h2 (p:=⟨b,r,VM⟩) hb2 (by simp;omega)).trans (hc r hr);exact⟨b,r,hr,hb1,Nat.lt_of_lt_of_le hb2 h2.size,rfl,hc2⟩
    refine aj.cons (λρ L W hR hI hL hD hO hF K hK=>?_) ?_
    ·have du:g<W.1.size:=Nat.lt_of_lt_of_le hI.lt.1 hI.lt.2;have dF:=hI.lt.2;have f19:=ag hF (j:=19) (by decide);clear hF hD hO;simp only[Act.put,ap,ak,aq]at hK |-;obtain⟨b,r,hr,hb1,hb2,e3,hc⟩:=f19;rw[e3]at hK |-;haveI:af b W:=af.of hb2;go_simp;refine hK _ _ (bh _ _) (by simpa[ar]using hI) (λW2 h2=>?_);exact⟨r,hr,rfl⟩
    refine aj.cons (λρ L W hR hI hL hD hO hF K hK=>?_) ?_
    ·have du:g<W.1.size:=Nat.lt_of_lt_of_le hI.lt.1 hI.lt.2;have dF:=hI.lt.2;have f15:=ag hF (j:=15) (by decide);have f20:=ag hF (j:=20) (by decide);clear hF hD hO;simp only[Act.put,ap,ak,aq]at hK |-;obtain⟨q,hq,Gh⟩:=f15;obtain⟨r,hr,e20⟩:=f20;rw[Gh,e20]at hK |-;have pT:=jR q;have hbl:=sT r;have y1:¬9223372036854775807<1+nm.size+(fA q).size+1+au.size+2+nm.size+1+(km r).size:=by omega
     go_simp;refine hK _ _ (bh _ _) (by simpa[ar]using hI) (λW2 h2=>?_);exact⟨q,r,hq,hr,rfl⟩
    refine aj.cons (λρ L W hR hI hL hD hO hF K hK=>?_) ?_
    ·have du:g<W.1.size:=Nat.lt_of_lt_of_le hI.lt.1 hI.lt.2;have dF:=hI.lt.2;have f0:=ag hF (j:=0) (by decide);have f21:=ag hF (j:=21) (by decide);clear hF hD hO;simp only[Act.put,ap,ak,aq]at hK |-;have e0:ρ 0=VE data:=f0;obtain⟨q,r,hq,hr,e21⟩:=f21;rw[e0,e21]at hK |-;have pT:=jR q;have hbl:=sT r;have y1:¬9223372036854775807<data.size+(1+nm.size+(fA q).size+1+au.size+2+nm.size+1+(km r).size):=by omega
     go_simp;refine hK _ _ (bh _ _) (by simpa[ar]using hI) (λW2 h2=>?_);exact⟨q,r,hq,hr,rfl⟩
    refine aj.cons (λρ L W hR hI hL hD hO hF K hK=>?_) ?_
    ·have du:g<W.1.size:=Nat.lt_of_lt_of_le hI.lt.1 hI.lt.2;have dF:=hI.lt.2;have f22:=ag hF (j:=22) (by decide);clear hF hD hO;simp only[Act.put,ap,ak,aq]at hK |-;obtain⟨q,r,hq,hr,e22⟩:=f22;rw[e22]at hK |-;go_simp;refine hK _ _ (bh _ _) (by simpa[ar]using hI) (λW2 h2=>?_);exact⟨q,r,hq,hr,rfl⟩
    exact aj.nil
   case hend=>
    intro ρ L W hR hI hL hF;obtain⟨_,_,_,_,_,_,_,_,_,_,_,_,_,_,_,_,_,_,_,_,_,_,_,⟨q,r,hq,hr,g23⟩,_⟩:=hF;have QN:bm W B g (Q+2):=hI.le (by split<;>split<;>omega);have MG:=aa QN;have jn:=aa (aK (bE iN.out (show ac w7 w7.drew from(ac.refl _).drew)) hR (λ_ e=>.inl e));have pT:=jR q;have hbl:=sT r;clear hI hR hL QN iN u5;rw[g23];clear g23;go_wp2;refine⟨⟨i-1,qn+1,_,rfl,congrArg (VD VJ) (by omega),by omega,?_,MG.out.le (by omega),jn.out⟩,by simp[intOf];omega⟩;simp only[ByteArray.size_append]
    show _+(1+_+_+1+_+2+_+1+_)<=_
    omega
  have z:¬(0:Int)<(i:Int):=by omega
  have hlen:qn=m:=by omega
  go_wp2;go_ret;exact⟨data,rfl,by omega,HG.out.le (by omega),HK.out⟩
end
