/- The contracts of the makers shield and longer. -/
import Derived.Test.YthoemdibbldndaaGreatDoorGL
import Derived.Test.YthoemdibbldndaaGreatDoorRefEnc
import Derived.Test.YthoemdibbldndaaGreatDoorRefSlice
import Derived.Test.YthoemdibbldndaaGreatDoorDcB
set_option linter.unusedVariables false
set_option linter.unusedSimpArgs false
set_option maxHeartbeats 12800000
set_option maxRecDepth 20000
namespace Go.Proofs.YthoemdibbldndaaGreatDoor
open Go.RowKit
section
namespace St
def shieldL:List UInt8->List UInt8
 | c :: r=>if c.toNat=32 then [92,115]++r else c :: r
 | []=>[]
def blankL(r:Nat):List UInt8:=if r=0 then [] else if r=1 then [32] else [9,32]
end St
def blankB(r:Nat):ByteArray:=⟨(St.blankL r).toArray⟩
theorem shield_any(t:List UInt8)(w:World)(ht:t.length<=4611686018427387904):Calls Tryz.prog 201 #[.string ⟨t.toArray⟩] w fun e w'=>e=.returned (.string ⟨(St.shieldL t).toArray⟩)/\Und w w':=by
 have htz:(⟨t.toArray⟩:ByteArray).size=t.length:=by show t.toArray.size=_;simp
 cases t with
 | nil=>
  go_enter Tryz.func201,Tryz.ntmps201;go_wp2;go_ret;exact⟨rfl,(by apply_rules[uUe,uUa,uUb,uUc,uUd])⟩
 | cons c r=>
  have hne:((⟨(c :: r).toArray⟩:ByteArray).toList==[])=false:=by rw[Lib.toList_data];rfl
  have hne2:((⟨(c :: r).toArray⟩:ByteArray).toList != [])=true:=by rw[Lib.toList_data];rfl
  have z0:(0:Int)<((c :: r).length:Int):=by simp <;> omega
  have z0':(0:Int)<((⟨(c :: r).toArray⟩:ByteArray).size:Int):=by rw[htz];exact z0
  have h0:0<(⟨(c :: r).toArray⟩:ByteArray).size:=by omega
  have hix:(⟨(c :: r).toArray⟩:ByteArray)[0]=c:=by show (c :: r).toArray[0]=c;simp
  have hrl:r.length+1<=4611686018427387904:=by simpa using ht
  have hex:(⟨(c :: r).toArray⟩:ByteArray).extract 1 (c :: r).length=⟨r.toArray⟩:=bytes_ext _ _ (by rw[Lib.extract_data];simp[List.take_of_length_le]);have hsz:(c :: r).length=r.length+1:=by simp
  generalize hb:(⟨(c :: r).toArray⟩:ByteArray)=b at *
  by_cases q:c.toNat=32
  ·have p1:((b[0].toNat:Int)==32)=true:=by rw[hix];simp;omega
   have hr:=hid (show St.shieldL (c :: r)=[92,115]++r by simp only[St.shieldL,if_pos q]);have z1:(1:Int)<=(b.size:Int):=by omega
   rw[<- htz] at hex;have y1:¬ 9223372036854775807<2+r.length:=by omega
   clear hix q hsz;go_enter Tryz.func201,Tryz.ntmps201;go_wp2;go_ret;refine⟨ret_ba ?_,(by apply_rules[uUe,uUa,uUb,uUc,uUd])⟩;rw[hr.out];have hbl:b.data.toList=c :: r:=by rw[<- hb]
   apply ByteArray.ext;simp[hbl,List.take_of_length_le]
  ·have p1:((b[0].toNat:Int)==32)=false:=by rw[hix];simp;omega
   have hr:=hid (show St.shieldL (c :: r)=c :: r by simp only[St.shieldL,if_neg q]);clear hix q hsz hex;go_enter Tryz.func201,Tryz.ntmps201;go_wp2;go_ret;refine⟨ret_ba ?_,(by apply_rules[uUe,uUa,uUb,uUc,uUd])⟩;rw[hr.out,hb]
def lgF(B g:Nat)(t:List UInt8):List Fact:=[
 fun v W=>∃ b,v=.slice (some ⟨b,0,none⟩) 3 3/\B<=b/\b<W.heap.size/\∀ r,r<3->W.cell? ⟨b,r,none⟩=some (.string (blankB r)),
 fun v _=>v=.pointer (some ⟨g,0,none⟩),
 fun v _=>∃ r:Nat,r<3/\v=.int .i64 r,
 fun v W=>∃ b r:Nat,r<3/\B<=b/\b<W.heap.size/\v=.pointer (some ⟨b,r,none⟩)/\W.cell? ⟨b,r,none⟩=some (.string (blankB r)),
 fun v _=>∃ r:Nat,r<3/\v=.string (blankB r),
 fun v _=>∃ r:Nat,r<3/\v=.string ((⟨#[92,10]⟩:ByteArray)++blankB r),
 fun v _=>v=.string ⟨t.toArray⟩,
 fun v _=>v=.string ⟨(St.shieldL t).toArray⟩,
 fun v _=>∃ r:Nat,r<3/\v=.string ((⟨#[92,10]⟩:ByteArray)++blankB r++⟨(St.shieldL t).toArray⟩),
 fun v _=>∃ r:Nat,r<3/\v=.string ((⟨#[92,10]⟩:ByteArray)++blankB r++⟨(St.shieldL t).toArray⟩)]
theorem shield_len(t:List UInt8):(St.shieldL t).length<=t.length+1:=by
 cases t with
 | nil=>simp[St.shieldL]
 | cons c r=>simp only[St.shieldL];split <;> simp
theorem blank_len(r:Nat):(blankB r).size<=2:=by unfold blankB St.blankL;split;decide;split <;> decide
theorem step_callE{P:Program}{ops:Array Oper}{o:Oper}{a:Act}{w:World}{K:Act->World->Prop}{Q:Exit->Act->World->Prop}{E:Prop}
  (hg:o.guard=none) (f:FuncId) (args:Array Value) (Po:Ending->World->Prop) (hc:Calls P f args w Po)
  (hrun:(execOp a.eval o).run P w=.ok (.enter f args) w) (hK:∀ e w',Po e w'->∃ v,e=.returned v/\K (a.put o.dst v) w') :
  if Region.wanted o (yielded ops a.tmps)=true then Oper.wp P o a w K Q else E:=by
 have hw:Region.wanted o (yielded ops a.tmps)=true:=by simp[Region.wanted,hg]
 rw[if_pos hw];unfold Oper.wp;rw[hrun];refine hc.mono ?_;intro e w' hp;obtain⟨v,rfl,hk⟩:=hK e w' hp;exact hk
theorem longer_res(B g P:Nat)(k:Int)(x:List UInt8)(i:Int)(t:List UInt8)(w:World)(hG:GenP w B g P)(hP:P<=1000000)(ht:t.length<=1000000)(hx:¬ (k=1/\x=[32])) :
  Calls Tryz.prog 175 #[.pointer (some ⟨g,0,none⟩),.int .i64 2,.agg #[.int .i64 k,.string ⟨x.toArray⟩,.int .i64 i],.string ⟨t.toArray⟩] w fun e w'=>∃ r:Nat,r<3/\e=.returned (.string ⟨([92,10]++St.blankL r++St.shieldL t).toArray⟩)/\GenP w' B g (P+1)/\w.grownBy w' (some g):=by
 have HG:=hid hG;obtain⟨hgB,hB⟩:=hG.lt;have hbx:=bl_eq ⟨x.toArray⟩ [32];have hxl:((⟨x.toArray⟩:ByteArray).data.toList)=x:=by simp
 rw[hxl] at hbx;clear hxl
 by_cases h1:x=[32]
 ·have h2:¬ k=1:=fun e=>hx ⟨e,h1⟩
  subst h1;have q2:(k==1)=false:=by simpa using h2
  clear hx hG hbx h2;go_enter Tryz.func175,Tryz.ntmps175;go_wp2_with fail;refine wp_region_facts (fun a b=>a.grownBy b (some g)) (fun L W=>GenP W B g (if L 2 then P+1 else P)) (lgF B g t) (fun a=>gb_refl a _) (fun a b c h k=>gb_trans h k (fun _ e=>.inl e)) (by kernel_rfl) (by rfl) (by kernel_rfl) (by kernel_rfl) ?fr ?hfr ?hI ?hob ?hend
  case hfr=>
   intro ρ;simp only[putAll,Act.put,zsA,zsB,zsC,Nat.zero_add,Nat.reduceAdd];exact rfl
  case hI=>exact HG.out.und ((Und.refl _).alloc _).drew
  case hob=>
   unfold lgF;refine ObsF.cons (fun ρ L W hR hI hL hD hO hF K hK=>?_) ?_
   ·have hgW:g<W.heap.size:=Nat.lt_of_lt_of_le hI.lt.1 hI.lt.2
    have hBW:=hI.lt.2;clear hF hD hO;simp only[Act.put,zsA,zsB,zsC] at hK ⊢;go_simp;refine hK _ _ (((Und.refl W).alloc _).gb _) (by simpa [updB] using hI.und ((Und.refl W).alloc _)) (fun W2 h2=>⟨W.heap.size,rfl,hBW,by have:=h2.size;simp at this;omega,fun r hr=>?_⟩);rw[gb_cell h2 (p:=⟨W.heap.size,r,none⟩) (by simp) (by simp;omega),World.cell?_alloc_at _ _ _ _ rfl];rcases(show r=0∨r=1∨r=2 by omega) with h|h|h <;> subst h <;> rfl
   refine ObsF.cons (fun ρ L W hR hI hL hD hO hF K hK=>?_) ?_
   ·have hgW:g<W.heap.size:=Nat.lt_of_lt_of_le hI.lt.1 hI.lt.2
    have hBW:=hI.lt.2;clear hF hD hO;simp only[Act.put,zsA,zsB,zsC] at hK ⊢;go_simp;refine hK _ _ (gb_refl _ _) (by simpa [updB] using hI) (fun W2 h2=>?_);rfl
   refine ObsF.cons (fun ρ L W hR hI hL hD hO hF K hK=>?_) ?_
   ·have hgW:g<W.heap.size:=Nat.lt_of_lt_of_le hI.lt.1 hI.lt.2
    have hBW:=hI.lt.2;have f1:=allF_get hF (j:=1) (by decide);clear hF hD hO;simp only[Act.put,zsA,zsB,zsC] at hK ⊢;have e1:ρ 1=.pointer (some ⟨g,0,none⟩):=f1;rw[e1] at hK ⊢;have hI1:GenP W B g P:=by simpa [hL] using hI
    refine step_callE (o:=⟨some 53,_,_,_,_,_⟩) rfl 64 #[.pointer (some ⟨g,0,none⟩),.int .i64 3] _ (next_gen B g P 3 W hI1 (by omega) (by omega) (by omega)) ?_ ?_
    ·go_simp
    rintro e W2 ⟨r,rfl,hr,hG2,hk⟩;exact⟨_,rfl,hK _ _ hk (by simpa [updB] using hG2) (fun W3 h3=>⟨r,by omega,rfl⟩)⟩
   refine ObsF.cons (fun ρ L W hR hI hL hD hO hF K hK=>?_) ?_
   ·have hgW:g<W.heap.size:=Nat.lt_of_lt_of_le hI.lt.1 hI.lt.2
    have hBW:=hI.lt.2;have f0:=allF_get hF (j:=0) (by decide);have f2:=allF_get hF (j:=2) (by decide);clear hF hD hO;simp only[Act.put,zsA,zsB,zsC] at hK ⊢;obtain⟨b,e0,hb1,hb2,hc⟩:=f0;obtain⟨r,hr,e2⟩:=f2;rw[e0,e2] at hK ⊢;have z1:(r:Int)<3:=by omega
    go_simp;refine hK _ _ (gb_refl _ _) (by simpa [updB] using hI) (fun W2 h2=>?_);have hc2:=(gb_cell h2 (p:=⟨b,r,none⟩) hb2 (by simp;omega)).trans (hc r hr);exact⟨b,r,hr,hb1,Nat.lt_of_lt_of_le hb2 h2.size,rfl,hc2⟩
   refine ObsF.cons (fun ρ L W hR hI hL hD hO hF K hK=>?_) ?_
   ·have hgW:g<W.heap.size:=Nat.lt_of_lt_of_le hI.lt.1 hI.lt.2
    have hBW:=hI.lt.2;have f3:=allF_get hF (j:=3) (by decide);clear hF hD hO;simp only[Act.put,zsA,zsB,zsC] at hK ⊢;obtain⟨b,r,hr,hb1,hb2,e3,hc⟩:=f3;rw[e3] at hK ⊢;go_simp;refine hK _ _ (gb_refl _ _) (by simpa [updB] using hI) (fun W2 h2=>?_);exact⟨r,hr,rfl⟩
   refine ObsF.cons (fun ρ L W hR hI hL hD hO hF K hK=>?_) ?_
   ·have hgW:g<W.heap.size:=Nat.lt_of_lt_of_le hI.lt.1 hI.lt.2
    have hBW:=hI.lt.2;have f4:=allF_get hF (j:=4) (by decide);clear hF hD hO;simp only[Act.put,zsA,zsB,zsC] at hK ⊢;obtain⟨r,hr,e4⟩:=f4;rw[e4] at hK ⊢;have hbl:=blank_len r;have y1:¬ 9223372036854775807<2+(blankB r).size:=by omega
    go_simp;refine hK _ _ (gb_refl _ _) (by simpa [updB] using hI) (fun W2 h2=>?_);exact⟨r,hr,rfl⟩
   refine ObsF.cons (fun ρ L W hR hI hL hD hO hF K hK=>?_) ?_
   ·have hgW:g<W.heap.size:=Nat.lt_of_lt_of_le hI.lt.1 hI.lt.2
    have hBW:=hI.lt.2;clear hF hD hO;simp only[Act.put,zsA,zsB,zsC] at hK ⊢;go_simp;refine hK _ _ (gb_refl _ _) (by simpa [updB] using hI) (fun W2 h2=>?_);rfl
   refine ObsF.cons (fun ρ L W hR hI hL hD hO hF K hK=>?_) ?_
   ·have hgW:g<W.heap.size:=Nat.lt_of_lt_of_le hI.lt.1 hI.lt.2
    have hBW:=hI.lt.2;have f6:=allF_get hF (j:=6) (by decide);clear hF hD hO;simp only[Act.put,zsA,zsB,zsC] at hK ⊢;have e6:ρ 6=.string ⟨t.toArray⟩:=f6;rw[e6] at hK ⊢;refine step_callE (o:=⟨some 58,_,_,_,_,_⟩) rfl 201 #[.string ⟨t.toArray⟩] _ (shield_any t W (by omega)) ?_ ?_
    ·go_simp
    rintro e W2 ⟨rfl,hu⟩;exact⟨_,rfl,hK _ _ (hu.gb _) (by simpa [updB] using hI.und hu) (fun W3 h3=>rfl)⟩
   refine ObsF.cons (fun ρ L W hR hI hL hD hO hF K hK=>?_) ?_
   ·have hgW:g<W.heap.size:=Nat.lt_of_lt_of_le hI.lt.1 hI.lt.2
    have hBW:=hI.lt.2;have f5:=allF_get hF (j:=5) (by decide);have f7:=allF_get hF (j:=7) (by decide);clear hF hD hO;simp only[Act.put,zsA,zsB,zsC] at hK ⊢;obtain⟨r,hr,e5⟩:=f5;have e7:ρ 7=.string ⟨(St.shieldL t).toArray⟩:=f7;rw[e5,e7] at hK ⊢;have hbl:=blank_len r;have hsl:=shield_len t;have y1:¬ 9223372036854775807<2+(blankB r).size+(St.shieldL t).length:=by omega
    go_simp;refine hK _ _ (gb_refl _ _) (by simpa [updB] using hI) (fun W2 h2=>⟨r,hr,rfl⟩)
   refine ObsF.cons (fun ρ L W hR hI hL hD hO hF K hK=>?_) ?_
   ·have hgW:g<W.heap.size:=Nat.lt_of_lt_of_le hI.lt.1 hI.lt.2
    have hBW:=hI.lt.2;have f8:=allF_get hF (j:=8) (by decide);clear hF hD hO;simp only[Act.put,zsA,zsB,zsC] at hK ⊢;obtain⟨r,hr,e8⟩:=f8;rw[e8] at hK ⊢;go_simp;refine hK _ _ (gb_refl _ _) (by simpa [updB] using hI) (fun W2 h2=>?_);exact⟨r,hr,rfl⟩
   exact ObsF.nil
  case hend=>
   intro ρ L W hR hI hL hF;obtain⟨_,_,_,_,_,_,_,_,_,⟨r,hr,e9⟩,_⟩:=hF;have hL2:=hL 2 (by decide);simp only[hL2,if_true] at hI;have hgb:w.grownBy W (some g):=gb_trans ((((Und.refl w).alloc _).drew).gb _) hR (fun _ e=>.inl e);have HE:=hid (And.intro hI hgb);rw[e9];clear hI hgb hR hL e9;go_wp2;go_ret;refine⟨r,hr,ret_ba ?_,HE.out.1,HE.out.2⟩;apply ByteArray.ext;simp[blankB]
 ·have q1:(x==[32])=false:=by simpa using h1
  rw[decide_eq_false h1] at hbx;clear hx hG;go_enter Tryz.func175,Tryz.ntmps175;go_wp2_with fail;refine wp_region_facts (fun a b=>a.grownBy b (some g)) (fun L W=>GenP W B g (if L 2 then P+1 else P)) (lgF B g t) (fun a=>gb_refl a _) (fun a b c h k=>gb_trans h k (fun _ e=>.inl e)) (by kernel_rfl) (by rfl) (by kernel_rfl) (by kernel_rfl) ?frB ?hfr ?hI ?hob ?hend
  case hfr=>
   intro ρ;simp only[putAll,Act.put,zsA,zsB,zsC,Nat.zero_add,Nat.reduceAdd];exact rfl
  case hI=>exact HG.out.und ((Und.refl _).alloc _).drew
  case hob=>
   unfold lgF;refine ObsF.cons (fun ρ L W hR hI hL hD hO hF K hK=>?_) ?_
   ·have hgW:g<W.heap.size:=Nat.lt_of_lt_of_le hI.lt.1 hI.lt.2
    have hBW:=hI.lt.2;clear hF hD hO;simp only[Act.put,zsA,zsB,zsC] at hK ⊢;go_simp;refine hK _ _ (((Und.refl W).alloc _).gb _) (by simpa [updB] using hI.und ((Und.refl W).alloc _)) (fun W2 h2=>⟨W.heap.size,rfl,hBW,by have:=h2.size;simp at this;omega,fun r hr=>?_⟩);rw[gb_cell h2 (p:=⟨W.heap.size,r,none⟩) (by simp) (by simp;omega),World.cell?_alloc_at _ _ _ _ rfl];rcases(show r=0∨r=1∨r=2 by omega) with h|h|h <;> subst h <;> rfl
   refine ObsF.cons (fun ρ L W hR hI hL hD hO hF K hK=>?_) ?_
   ·have hgW:g<W.heap.size:=Nat.lt_of_lt_of_le hI.lt.1 hI.lt.2
    have hBW:=hI.lt.2;clear hF hD hO;simp only[Act.put,zsA,zsB,zsC] at hK ⊢;go_simp;refine hK _ _ (gb_refl _ _) (by simpa [updB] using hI) (fun W2 h2=>?_);rfl
   refine ObsF.cons (fun ρ L W hR hI hL hD hO hF K hK=>?_) ?_
   ·have hgW:g<W.heap.size:=Nat.lt_of_lt_of_le hI.lt.1 hI.lt.2
    have hBW:=hI.lt.2;have f1:=allF_get hF (j:=1) (by decide);clear hF hD hO;simp only[Act.put,zsA,zsB,zsC] at hK ⊢;have e1:ρ 1=.pointer (some ⟨g,0,none⟩):=f1;rw[e1] at hK ⊢;have hI1:GenP W B g P:=by simpa [hL] using hI
    refine step_callE (o:=⟨some 53,_,_,_,_,_⟩) rfl 64 #[.pointer (some ⟨g,0,none⟩),.int .i64 3] _ (next_gen B g P 3 W hI1 (by omega) (by omega) (by omega)) ?_ ?_
    ·go_simp
    rintro e W2 ⟨r,rfl,hr,hG2,hk⟩;exact⟨_,rfl,hK _ _ hk (by simpa [updB] using hG2) (fun W3 h3=>⟨r,by omega,rfl⟩)⟩
   refine ObsF.cons (fun ρ L W hR hI hL hD hO hF K hK=>?_) ?_
   ·have hgW:g<W.heap.size:=Nat.lt_of_lt_of_le hI.lt.1 hI.lt.2
    have hBW:=hI.lt.2;have f0:=allF_get hF (j:=0) (by decide);have f2:=allF_get hF (j:=2) (by decide);clear hF hD hO;simp only[Act.put,zsA,zsB,zsC] at hK ⊢;obtain⟨b,e0,hb1,hb2,hc⟩:=f0;obtain⟨r,hr,e2⟩:=f2;rw[e0,e2] at hK ⊢;have z1:(r:Int)<3:=by omega
    go_simp;refine hK _ _ (gb_refl _ _) (by simpa [updB] using hI) (fun W2 h2=>?_);have hc2:=(gb_cell h2 (p:=⟨b,r,none⟩) hb2 (by simp;omega)).trans (hc r hr);exact⟨b,r,hr,hb1,Nat.lt_of_lt_of_le hb2 h2.size,rfl,hc2⟩
   refine ObsF.cons (fun ρ L W hR hI hL hD hO hF K hK=>?_) ?_
   ·have hgW:g<W.heap.size:=Nat.lt_of_lt_of_le hI.lt.1 hI.lt.2
    have hBW:=hI.lt.2;have f3:=allF_get hF (j:=3) (by decide);clear hF hD hO;simp only[Act.put,zsA,zsB,zsC] at hK ⊢;obtain⟨b,r,hr,hb1,hb2,e3,hc⟩:=f3;rw[e3] at hK ⊢;go_simp;refine hK _ _ (gb_refl _ _) (by simpa [updB] using hI) (fun W2 h2=>?_);exact⟨r,hr,rfl⟩
   refine ObsF.cons (fun ρ L W hR hI hL hD hO hF K hK=>?_) ?_
   ·have hgW:g<W.heap.size:=Nat.lt_of_lt_of_le hI.lt.1 hI.lt.2
    have hBW:=hI.lt.2;have f4:=allF_get hF (j:=4) (by decide);clear hF hD hO;simp only[Act.put,zsA,zsB,zsC] at hK ⊢;obtain⟨r,hr,e4⟩:=f4;rw[e4] at hK ⊢;have hbl:=blank_len r;have y1:¬ 9223372036854775807<2+(blankB r).size:=by omega
    go_simp;refine hK _ _ (gb_refl _ _) (by simpa [updB] using hI) (fun W2 h2=>?_);exact⟨r,hr,rfl⟩
   refine ObsF.cons (fun ρ L W hR hI hL hD hO hF K hK=>?_) ?_
   ·have hgW:g<W.heap.size:=Nat.lt_of_lt_of_le hI.lt.1 hI.lt.2
    have hBW:=hI.lt.2;clear hF hD hO;simp only[Act.put,zsA,zsB,zsC] at hK ⊢;go_simp;refine hK _ _ (gb_refl _ _) (by simpa [updB] using hI) (fun W2 h2=>?_);rfl
   refine ObsF.cons (fun ρ L W hR hI hL hD hO hF K hK=>?_) ?_
   ·have hgW:g<W.heap.size:=Nat.lt_of_lt_of_le hI.lt.1 hI.lt.2
    have hBW:=hI.lt.2;have f6:=allF_get hF (j:=6) (by decide);clear hF hD hO;simp only[Act.put,zsA,zsB,zsC] at hK ⊢;have e6:ρ 6=.string ⟨t.toArray⟩:=f6;rw[e6] at hK ⊢;refine step_callE (o:=⟨some 58,_,_,_,_,_⟩) rfl 201 #[.string ⟨t.toArray⟩] _ (shield_any t W (by omega)) ?_ ?_
    ·go_simp
    rintro e W2 ⟨rfl,hu⟩;exact⟨_,rfl,hK _ _ (hu.gb _) (by simpa [updB] using hI.und hu) (fun W3 h3=>rfl)⟩
   refine ObsF.cons (fun ρ L W hR hI hL hD hO hF K hK=>?_) ?_
   ·have hgW:g<W.heap.size:=Nat.lt_of_lt_of_le hI.lt.1 hI.lt.2
    have hBW:=hI.lt.2;have f5:=allF_get hF (j:=5) (by decide);have f7:=allF_get hF (j:=7) (by decide);clear hF hD hO;simp only[Act.put,zsA,zsB,zsC] at hK ⊢;obtain⟨r,hr,e5⟩:=f5;have e7:ρ 7=.string ⟨(St.shieldL t).toArray⟩:=f7;rw[e5,e7] at hK ⊢;have hbl:=blank_len r;have hsl:=shield_len t;have y1:¬ 9223372036854775807<2+(blankB r).size+(St.shieldL t).length:=by omega
    go_simp;refine hK _ _ (gb_refl _ _) (by simpa [updB] using hI) (fun W2 h2=>⟨r,hr,rfl⟩)
   refine ObsF.cons (fun ρ L W hR hI hL hD hO hF K hK=>?_) ?_
   ·have hgW:g<W.heap.size:=Nat.lt_of_lt_of_le hI.lt.1 hI.lt.2
    have hBW:=hI.lt.2;have f8:=allF_get hF (j:=8) (by decide);clear hF hD hO;simp only[Act.put,zsA,zsB,zsC] at hK ⊢;obtain⟨r,hr,e8⟩:=f8;rw[e8] at hK ⊢;go_simp;refine hK _ _ (gb_refl _ _) (by simpa [updB] using hI) (fun W2 h2=>?_);exact⟨r,hr,rfl⟩
   exact ObsF.nil
  case hend=>
   intro ρ L W hR hI hL hF;obtain⟨_,_,_,_,_,_,_,_,_,⟨r,hr,e9⟩,_⟩:=hF;have hL2:=hL 2 (by decide);simp only[hL2,if_true] at hI;have hgb:w.grownBy W (some g):=gb_trans ((((Und.refl w).alloc _).drew).gb _) hR (fun _ e=>.inl e);have HE:=hid (And.intro hI hgb);rw[e9];clear hI hgb hR hL e9;go_wp2;go_ret;refine⟨r,hr,ret_ba ?_,HE.out.1,HE.out.2⟩;apply ByteArray.ext;simp[blankB]
end
section
theorem enc_le(fmt:Int)(f:List St.It):(St.encS fmt f).1.length<=5*tot f+3*f.length:=by
 have hb:∀ t:List UInt8,(t.flatMap (St.encB fmt)).length<=5*t.length:=fun t=>by
  induction t with
  | nil=>simp
  | cons c t ih=>rw[List.flatMap_cons,List.length_append,List.length_cons];have:=(St.encB_len fmt c).2;omega
 have hi:∀ x:St.It,(St.encI fmt x).length<=5*x.2.1.length+3:=fun x=>by
  unfold St.encI;have:=hb x.2.1
  repeat' split
  all_goals first|exact Nat.le_trans this (by omega)|(simp;done)|(simp;omega)
 have hf:(f.flatMap (St.encI fmt)).length<=5*tot f+3*f.length:=by
  induction f with
  | nil=>simp
  | cons x f ih=>
   rw[List.flatMap_cons,List.length_append,List.length_cons];have:=hi x
   have e:tot (x :: f)=x.2.1.length+tot f:=by simp[tot]
   omega
 unfold St.encS
 split
 ·simp
 split
 ·simp
 ·exact hf
theorem llong_any(fmt:Int)(hk:fmt=1∨fmt=2∨fmt=3)(B g P:Nat)(k:Int)(x:List UInt8)(i:Int)(u:List UInt8)(w:World)(hG:GenP w B g P)(hP:P<=1000000)(hu:u.length<=1000000) :
  Calls Tryz.prog 175 #[.pointer (some ⟨g,0,none⟩),.int .i64 fmt,.agg #[.int .i64 k,.string ⟨x.toArray⟩,.int .i64 i],.string ⟨u.toArray⟩] w fun e w'=>∃ b:ByteArray,e=.returned (.string b)/\b.size<=u.length+10/\GenP w' B g (P+1)/\w.grownBy w' (some g):=by
 have us:(⟨u.toArray⟩:ByteArray).size=u.length:=by show u.toArray.size=_;simp
 have fin:∀ (W:World) (b:ByteArray),Und w W->b.size<=u.length+10->∃ b':ByteArray,Ending.returned (.string b)=.returned (.string b')/\b'.size<=u.length+10/\GenP W B g (P+1)/\w.grownBy W (some g):=fun W b hW hb=>⟨b,rfl,hb,(hG.und hW).le (by omega),hW.gb _⟩
 have FIN:=hid fin;have HG:=hid hG;obtain⟨hgB,hB⟩:=hG.lt;clear fin hG;rcases hk with rfl|rfl|rfl
 ·have b62:=bl_eq ⟨x.toArray⟩ [62]
  have b125:=bl_eq ⟨x.toArray⟩ [125];have hxl:((⟨x.toArray⟩:ByteArray).data.toList)=x:=by simp
  rw[hxl] at b62 b125
  by_cases h3:x=[62]
  ·subst h3
   clear b62 b125 hxl
   by_cases hk1:k=1
   ·subst hk1
    go_enter Tryz.func175,Tryz.ntmps175;go_wp2;go_ret;exact FIN.out _ ⟨#[38,103,116,59]⟩ ((by apply_rules[uUe,uUa,uUb,uUc,uUd])) (by show 4<=_;omega)
   ·have q2:(k==1)=false:=by simpa using hk1
    clear hk1;generalize (⟨u.toArray⟩:ByteArray)=uu at us ⊢;go_enter Tryz.func175,Tryz.ntmps175;go_wp2;go_ret;exact FIN.out _ uu ((by apply_rules[uUe,uUa,uUb,uUc,uUd])) (by omega)
  by_cases h4:x=[125]
  ·subst h4
   clear b62 b125 hxl h3
   by_cases hk1:k=1
   ·subst hk1
    go_enter Tryz.func175,Tryz.ntmps175;go_wp2;go_ret;exact FIN.out _ ⟨#[38,114,98,59]⟩ ((by apply_rules[uUe,uUa,uUb,uUc,uUd])) (by show 4<=_;omega)
   ·have q2:(k==1)=false:=by simpa using hk1
    clear hk1;generalize (⟨u.toArray⟩:ByteArray)=uu at us ⊢;go_enter Tryz.func175,Tryz.ntmps175;go_wp2;go_ret;exact FIN.out _ uu ((by apply_rules[uUe,uUa,uUb,uUc,uUd])) (by omega)
  rw[decide_eq_false h3] at b62;rw[decide_eq_false h4] at b125;generalize (⟨x.toArray⟩:ByteArray)=s at b62 b125 ⊢;generalize (⟨u.toArray⟩:ByteArray)=uu at us ⊢;clear h3 h4 hxl;go_enter Tryz.func175,Tryz.ntmps175;go_wp2;go_ret;exact FIN.out _ uu ((by apply_rules[uUe,uUa,uUb,uUc,uUd])) (by omega)
 ·by_cases hx:k=1/\x=[32]
  ·obtain⟨rfl,rfl⟩:=hx
   go_enter Tryz.func175,Tryz.ntmps175;go_wp2;go_ret;exact FIN.out _ ⟨#[92,115]⟩ ((by apply_rules[uUe,uUa,uUb,uUc,uUd])) (by show 2<=_;omega)
  ·refine(longer_res B g P k x i u w HG.out hP hu hx).mono ?_
   rintro e w' ⟨r,hr,rfl,h1,h2⟩;refine⟨_,rfl,?_,h1,h2⟩
   show (([92,10]++St.blankL r++St.shieldL u).toArray).size<=_
   have hb:(St.blankL r).length<=3:=by rcases(show r=0∨r=1∨r=2 by omega) with rfl|rfl|rfl <;> decide
   have hs:(St.shieldL u).length<=u.length+1:=by
    unfold St.shieldL
    split
    ·split <;> simp
    ·simp
   simp only[List.size_toArray,List.length_append,List.length_cons,List.length_nil];omega
 ·generalize (⟨u.toArray⟩:ByteArray)=uu at us ⊢
  generalize (⟨x.toArray⟩:ByteArray)=s;go_enter Tryz.func175,Tryz.ntmps175;go_wp2;go_ret;exact FIN.out _ uu ((by apply_rules[uUe,uUa,uUb,uUc,uUd])) (by omega)
def LrRel(w:World)(B g P M L:Nat)(s7 s8:Value)(wr:World):Prop:=
 ∃ (i:Nat) (raw:ByteArray),i<=L/\s8=.int .i64 i/\s7=.string raw/\raw.size<=M*i/\GenP wr B g (P+2*i)/\w.grownBy wr (some g)
theorem items_gb'{w w':World}{A:Option Addr}{f:List St.It}{g:Nat}(h:ItemsAt w A f)(k:w.grownBy w' (some g))(hne:∀ b off,A=some ⟨b,off,none⟩->b ≠ g):ItemsAt w' A f:=by
 intro h0;obtain⟨b,off,rfl,hb,hc⟩:=h h0;refine⟨b,off,rfl,Nat.lt_of_lt_of_le hb k.size,fun j hj=>?_⟩;obtain⟨c0,c1,c2⟩:=hc j hj;have hn:=hne b off rfl;exact⟨(gb_cell k (p:=⟨b,_,none⟩) hb (by simpa using hn)).trans c0,(gb_cell k (p:=⟨b,_,none⟩) hb (by simpa using hn)).trans c1,(gb_cell k (p:=⟨b,_,none⟩) hb (by simpa using hn)).trans c2⟩
theorem lraws_gen(fmt:Int)(hk:fmt=1∨fmt=2∨fmt=3)(B g P M L:Nat)(A:Option Addr)(n c:Nat)(f:List St.It)(w:World)(hG:GenP w B g P)(hP:P<=100000)(hn:f.length=n)(h:ItemsAt w A f)(hne:∀ b off,A=some ⟨b,off,none⟩->b ≠ g)
  (hl:n<=1000) (ht:tot f<=10000) (hM:M=5*tot f+3*n+10) (hL:L=St.lenL f) :
  Calls Tryz.prog 133 #[.pointer (some ⟨g,0,none⟩),.int .i64 fmt,.slice A n c] w fun e w'=>∃ raw:ByteArray,e=.returned (.string raw)/\raw.size<=M*L/\GenP w' B g (P+2*L)/\w.grownBy w' (some g):=by
 have HG:=hid hG;have H:=hid h;have HN:=hid hn;have HNE:=hid hne;have HL:=hid hL;have HM:=hid hM;obtain⟨hgB,hB⟩:=hG.lt;have hll:L<=tot f+n:=by rw[hL];have:=lenL_tot f;omega
 have hML:M*L<=60000*11000:=Nat.mul_le_mul (by omega) (by omega);clear hG h hn hne hL hM;go_enter Tryz.func133,Tryz.ntmps133;go_wp2_with fail;go_loopw [7,8] (fun s7 s8 wr=>LrRel w B g P M L s7 s8 wr) (fun _ s8 _=>L+1-(intOf s8).toNat)
 case atStart=>exact⟨0,⟨#[]⟩,by omega,rfl,rfl,by show 0<=_;omega,HG.out,gb_refl _ _⟩
 case round=>
  clear HG;obtain⟨i,raw,hi,rfl,rfl,hrs,hG,hk⟩:=hrel;have HG:=hid hG;have HK:=hid hk;have hI:=items_gb' H.out hk HNE.out;have hlen:=rlength_any A n c f wr HN.out hI (by omega) (by omega);rw[<- HL.out] at hlen;have HLEN:=hid hlen;have hsz:=hk.size;have hMi:M*i<=M*L:=Nat.mul_le_mul (Nat.le_refl M) hi
  by_cases hlt:i<L
  ·have z1:(i:Int)<(L:Nat):=by omega
   have hMs:M*i+M<=M*(i+1):=Nat.le_of_eq (Nat.mul_succ M i).symm;have hsl:=hid (rslice_any A n c f i (i+1) wr HN.out hI (by omega) (by omega) (by omega) (by rw[<- HL.out];omega));have hx1:=slice_len i (i+1) f 0;have hx2:=tot_sl i (i+1) f 0;generalize St.sliceL i (i+1) 0 f=x at hsl hx1 hx2;have hen:=enc_le fmt x;have hN:=HN.out;have hM:5*tot f+3*n+10<=M:=by have:=HM.out;omega
   have hez:(⟨(St.encS fmt x).1.toArray⟩:ByteArray).size=(St.encS fmt x).1.length:=by show (St.encS fmt x).1.toArray.size=_;simp
   clear hI hlen hG hk;go_wp2_with fail;refine HLEN.out.mono ?_;rintro e w2 ⟨rfl,rfl⟩;go_wp2_with fail;refine hsl.out.mono ?_;rintro e w2 ⟨v,rfl,ho,hu2⟩;obtain⟨A2,c2,rfl,hc2,hc3,hA2⟩:=own_slice' ho;have hit:=items_own ho rfl;have hnb:=hid (fun b off (e:A2=some ⟨b,off,none⟩)=>(show wr.heap.size<=b from owns_block ho b (by rw[e];rfl)));have henc:=rencode_any fmt A2 x.length c2 x w2 rfl hc2 (by unfold maxLen at hc3;omega) hA2 hit (by omega) (by omega);generalize (St.encS fmt x).2=er at henc;generalize (St.encS fmt x).1=u at henc hen hez;have HENC:=hid henc;have HIT:=hid hit;have HK2:=hid (gb_und HK.out hu2);have HG2:=hid (HG.out.und hu2);clear henc hit ho hu2 HLEN hsl HK HG;go_wp2_with fail;refine HENC.out.mono ?_;rintro e w3 ⟨rfl,hu3⟩;have HK3:=hid (gb_und HK2.out hu3);have HG3:=hid (HG2.out.und hu3);have HIT3:=hid (HIT.out.und hu3);clear hu3 HENC HK2 HG2 HIT
   by_cases hx:x.length=1
   ·obtain⟨y,rfl⟩:=List.length_eq_one_iff.1 hx
    simp only[List.length_singleton] at hen hx1 hc2 ⊢;clear hx;go_wp2_with fail;refine(next_gen B g _ 3 _ HG3.out (by omega) (by omega) (by omega)).mono ?_;rintro e w4 ⟨r,rfl,hr,hG4,hk4⟩;have HG4:=hid hG4;have HK4:=hid (gb_trans HK3.out hk4 (fun _ e=>.inl e))
    by_cases hr0:r=0
    ·subst hr0
     obtain⟨g2,off,rfl,hg2,hc⟩:=HIT3.out (by simp);have hg2n:g2 ≠ g:=by have:=hnb.out _ _ rfl;omega
     obtain⟨q0,q1,q2⟩:=hc 0 (by simp);have d0:=(gb_cell hk4 (p:=⟨g2,off+0*3,none⟩) hg2 (by simpa using hg2n)).trans q0;have d1:=(gb_cell hk4 (p:=⟨g2,off+0*3+1,none⟩) hg2 (by simpa using hg2n)).trans q1;have d2:=(gb_cell hk4 (p:=⟨g2,off+0*3+2,none⟩) hg2 (by simpa using hg2n)).trans q2;simp only[Nat.zero_mul,Nat.add_zero] at d0 d1 d2;obtain⟨yk,yt,yi⟩:=y;simp only[List.getElem_cons_zero] at d0 d1 d2;haveI:LtW g2 w4:=LtW.of (zbL _ _ d0);clear hG4 hk4 HG3 HK3 q0 q1 q2 hc;go_wp2_with fail;refine(llong_any fmt hk B g _ yk yt yi u _ HG4.out (by omega) (by omega)).mono ?_;rintro e w5 ⟨b,rfl,hb,hG5,hk5⟩;have HE:=hid (And.intro hG5 (gb_trans HK4.out hk5 (fun _ e=>.inl e)));have y1:¬ 9223372036854775807<raw.size+b.size:=by omega
     clear hG5 hk5;go_wp2;exact⟨⟨i+1,_,by omega,congrArg (Value.int .i64) (by omega),rfl,by rw[ByteArray.size_append];omega,HE.out.1.le (by omega),HE.out.2⟩,by simp[intOf];omega⟩
    ·have z3:((r:Int)==0)=false:=by simp;omega
     have y1:¬ 9223372036854775807<raw.size+(⟨u.toArray⟩:ByteArray).size:=by omega
     clear hG4 hk4 HG3 HK3 hr0;go_wp2;exact⟨⟨i+1,_,by omega,congrArg (Value.int .i64) (by omega),rfl,by rw[ByteArray.size_append];omega,HG4.out.le (by omega),HK4.out⟩,by simp[intOf];omega⟩
   ·have z2:((x.length:Int)==1)=false:=by simp;omega
    have y1:¬ 9223372036854775807<raw.size+(⟨u.toArray⟩:ByteArray).size:=by omega
    clear hx;go_wp2;exact⟨⟨i+1,_,by omega,congrArg (Value.int .i64) (by omega),rfl,by rw[ByteArray.size_append];omega,HG3.out.le (by omega),HK3.out⟩,by simp[intOf];omega⟩
  ·have z1:¬ (i:Int)<(L:Nat):=by omega
   clear hI hlen hG hk;go_wp2_with fail;refine HLEN.out.mono ?_;rintro e w2 ⟨rfl,rfl⟩;go_wp2;go_ret;exact⟨raw,rfl,by omega,HG.out.le (by omega),HK.out⟩
end
section
def tailL8(r:Nat):List UInt8:=if r=0 then [] else if r=1 then [35,120,10] else [10]
def tailC(r:Nat):ByteArray:=⟨(tailL8 r).toArray⟩
theorem tail_sz(r:Nat):(tailC r).size<=3:=by unfold tailC tailL8;split;decide;split <;> decide
theorem Decimal_any(n:Nat)(w:World)(hn:n<=4611686018427387904):Calls Tryz.prog 134 #[.int .i64 n] w fun e w'=>e=.returned (.string ⟨(Lib.decDigits n).toArray⟩)/\Und w w':=by
 have h0:¬ (n:Int)<0:=by omega
 go_enter Tryz.func134,Tryz.ntmps134;go_wp2_with (go_at_call 176;refine(decimal_any n _ hn).mono ?_;rintro e w' ⟨rfl,X,rfl⟩);go_ret;exact⟨rfl,(by apply_rules[uUe,uUa,uUb,uUc,uUd])⟩
def D8Rel(w:World)(B g P m:Nat)(s7 s9:Value)(wr:World):Prop:=
 ∃ (i qn:Nat) (data:ByteArray),s7=.string data/\s9=.int .i64 i/\qn+i=m/\data.size<=4+90000*qn/\GenP wr B g (P+2+300*qn)/\w.grownBy wr (some g)
theorem dig_small{i:Nat}(h:i<10):(⟨(Lib.decDigits i).toArray⟩:ByteArray).size=1:=by
 rw[Lib.decDigits_one h];rfl
theorem ldata8_gen(B g P n:Nat)(w:World)(hG:GenP w B g P)(hP:P<=10000)(hn:n<=9) :
  Calls Tryz.prog 100 #[.pointer (some ⟨g,0,none⟩),.int .i64 2,.int .i64 n] w fun e w'=>∃ data:ByteArray,e=.returned (.string data)/\data.size<=12+90000*n/\GenP w' B g (P+2+300*n)/\w.grownBy w' (some g):=by
 have HG:=hid hG;obtain⟨hgB,hB⟩:=hG.lt;clear hG;go_enter Tryz.func100,Tryz.ntmps100;go_wp2_with fail;refine(next_gen B g P 3 _ (HG.out.und ((Und.refl _).alloc (.cells #[.string ⟨#[]⟩,.string ⟨#[35,32,99,10]⟩,.string ⟨#[10,32,10]⟩] 9))) (by omega) (by omega) (by omega)).mono ?_;rintro e w2 ⟨r,rfl,hr,hG2,hk2⟩
 obtain⟨hb,hhb,hhs⟩:∃ hb:ByteArray,(#[.string ⟨#[]⟩,.string ⟨#[35,32,99,10]⟩,.string ⟨#[10,32,10]⟩]:Array Value)[r]?=some (.string hb)/\hb.size<=4:=by
  rcases(show r=0∨r=1∨r=2 by omega) with h|h|h <;> subst h <;> exact⟨_,rfl,by decide⟩
 have hcell:=lit_cell w w2 _ _ B g hk2 hgB hB r _ hhb;have HG2:=hid hG2;have HK2:=hid (gb_trans (((Und.refl w).alloc _).gb (some g)) hk2 (fun _ e=>.inl e));have hsz2:=HK2.out.size;haveI:LtW w.heap.size w2:=LtW.of (zbL _ _ hcell);have hr3:r<3:=by omega
 clear hG2 hk2 HG hhb;go_wp2_with fail;refine(next_gen B g _ ((n:Int)+1) _ HG2.out (by omega) (by omega) (by omega)).mono ?_;rintro e w3 ⟨m,rfl,hm,hG3,hk3⟩;have HG3:=hid hG3;have HK3:=hid (gb_trans HK2.out hk3 (fun _ e=>.inl e));clear hG3 hk3 HG2 HK2 hcell;clear hr;go_wp2_with fail;go_loopw [7,9] (fun s7 s9 wr=>D8Rel w B g P m s7 s9 wr) (fun _ s9 _=>(intOf s9).toNat)
 case atStart=>exact⟨m,0,hb,rfl,rfl,by omega,by omega,HG3.out.le (by omega),HK3.out⟩
 case round=>
  clear HG3 HK3;obtain⟨i,qn,data,rfl,rfl,hki,hds,hG,hk⟩:=hrel;have HG:=hid hG;have HK:=hid hk;have hszr:=hk.size;clear hG hk
  by_cases hi:0<i
  ·have z:(0:Int)<(i:Int):=by omega
   go_wp2_with fail;refine(frag_gen B g _ 5 _ HG.out (by omega) (by omega)).mono ?_;rintro e w4 ⟨v,f,rfl,ho,hgd,hfl,hft,hG4,hk4⟩;obtain⟨A4,c4,rfl,h41,h42,_⟩:=own_slice' ho;have HG4:=hid hG4;have HK4:=hid (gb_trans HK.out hk4 (fun _ e=>.inl e));have hit:=items_own ho rfl;have hbl:=fun b off (e:A4=some ⟨b,off,none⟩)=>owns_block ho b (by subst e;rfl)
   have HIT:=hid hit;clear hG4 hk4 ho hit hgd HG HK;go_wp2_with fail;have hlz:=lenL_tot f;refine(lraws_gen 2 (.inr (.inl rfl)) B g _ (5*tot f+3*f.length+10) (St.lenL f) A4 f.length c4 f _ HG4.out (by omega) rfl HIT.out (fun b off e=>by have:=hbl b off e;omega) (by omega) (by omega) rfl rfl).mono ?_;rintro e w5 ⟨raw,rfl,hrz,hG5,hk5⟩;have hrz:raw.size<=80000:=Nat.le_trans (Nat.le_trans hrz (Nat.mul_le_mul (show 5*tot f+3*f.length+10<=475 by omega) (show St.lenL f<=95 by omega))) (by decide);have HU5:=hid (gb_trans HK4.out hk5 (fun _ e=>.inl e));obtain⟨Q,hQ,hG5⟩:∃ Q,Q+1<=P+2+300*(qn+1)/\GenP w5 B g Q:=⟨_,by omega,hG5⟩;have hQ2:Q<=1000000:=by omega
   have HG5:=hid hG5;obtain⟨dg,hdg⟩:∃ dg:ByteArray,(⟨(Lib.decDigits i).toArray⟩:ByteArray)=dg:=⟨_,rfl⟩;have hdz:dg.size=1:=by rw[<- hdg];exact dig_small (by omega)
   clear hG5 hk5 HG4 HK4 HIT hbl hlz;go_wp2_with fail;refine(Decimal_any i w5 (by omega)).mono ?_;rintro e w6 ⟨rfl,hu6⟩;rw[hdg];have HG6:=hid (HG5.out.und hu6);have HU6:=hid (gb_und HU5.out hu6);clear hu6 HG5 HU5;go_wp2_with fail;refine(next_gen B g Q 3 _ (HG6.out.und ((Und.refl _).alloc (.cells #[.string ⟨#[]⟩,.string ⟨#[35,120,10]⟩,.string ⟨#[10]⟩] 9))) (by omega) (by omega) (by omega)).mono ?_;rintro e w7 ⟨r,rfl,hr,hG7,hk7⟩
   obtain⟨tb,htb,hts⟩:∃ tb:ByteArray,(#[.string ⟨#[]⟩,.string ⟨#[35,120,10]⟩,.string ⟨#[10]⟩]:Array Value)[r]?=some (.string tb)/\tb=tailC r:=by
    rcases(show r=0∨r=1∨r=2 by omega) with h|h|h <;> subst h <;> exact⟨_,rfl,rfl⟩
   have hBw6:=HG6.out.lt;have hcell:=lit_cell w6 w7 _ _ B g hk7 hBw6.1 hBw6.2 r _ htb;have HG7:=hid hG7;have HU7:=hid (gb_trans (gb_und HU6.out ((Und.refl _).alloc _)) hk7 (fun _ e=>.inl e));have hsz7:=hk7.size;haveI:LtW w6.heap.size w7:=LtW.of (zbL _ _ hcell);have htz:tb.size<=3:=by rw[hts];exact tail_sz r
   have hr3':r<3:=by omega
   clear hG7 hk7 HG6 HU6 htb hts hdg;go_wp2;refine⟨⟨i-1,qn+1,_,rfl,congrArg (Value.int .i64) (by omega),by omega,?_,HG7.out.le (by omega),HU7.out⟩,by simp[intOf];omega⟩;simp only[ByteArray.size_append]
   show _+(1+_+1+_+1+_)<=_
   omega
  ·have z:¬ (0:Int)<(i:Int):=by omega
   have hlen:qn=m:=by omega
   go_wp2;go_ret;exact⟨data,rfl,by omega,HG.out.le (by omega),HK.out⟩
end
section
def preL(col:Nat):List UInt8:=if col=0 then [] else if col=1 then [55,44] else [120,44]
def postL(col:Nat):List UInt8:=if col=0 then [] else if col=1 then [] else [44,34,121,34]
def preC(col:Nat):ByteArray:=⟨(preL col).toArray⟩
def postC(col:Nat):ByteArray:=⟨(postL col).toArray⟩
theorem pre_sz(col:Nat):(preC col).size<=2:=by unfold preC preL;split;decide;split <;> decide
theorem post_sz(col:Nat):(postC col).size<=4:=by unfold postC postL;split;decide;split <;> decide
def DaRel(w:World)(B g P n col:Nat)(s7 s9:Value)(wr:World):Prop:=
 ∃ (i k:Nat) (data:ByteArray),s7=.string data/\s9=.int .i64 i/\k+i<=n/\data.size<=12+90000*k/\GenP wr B g (P+2+300*k)/\w.grownBy wr (some g)
def daF(data raw:ByteArray)(col:Nat):List Fact:=[
 fun v _=>v=.string data,
 fun v W=>∃ b,v=.slice (some ⟨b,0,none⟩) 3 3/\b<W.heap.size/\∀ r,r<3->W.cell? ⟨b,r,none⟩=some (.string (preC r)),
 fun v _=>v=.int .i64 col,
 fun v W=>∃ b,v=.pointer (some ⟨b,col,none⟩)/\b<W.heap.size/\W.cell? ⟨b,col,none⟩=some (.string (preC col)),
 fun v _=>v=.string (preC col),
 fun v _=>v=.string ((⟨#[10]⟩:ByteArray)++preC col),
 fun v _=>v=.string ((⟨#[10]⟩:ByteArray)++preC col++(⟨#[34]⟩:ByteArray)),
 fun v _=>v=.string raw,
 fun v _=>v=.string ((⟨#[10]⟩:ByteArray)++preC col++(⟨#[34]⟩:ByteArray)++raw),
 fun v _=>v=.string ((⟨#[10]⟩:ByteArray)++preC col++(⟨#[34]⟩:ByteArray)++raw++(⟨#[34]⟩:ByteArray)),
 fun v W=>∃ b,v=.slice (some ⟨b,0,none⟩) 3 3/\b<W.heap.size/\∀ r,r<3->W.cell? ⟨b,r,none⟩=some (.string (postC r)),
 fun v _=>v=.int .i64 col,
 fun v W=>∃ b,v=.pointer (some ⟨b,col,none⟩)/\b<W.heap.size/\W.cell? ⟨b,col,none⟩=some (.string (postC col)),
 fun v _=>v=.string (postC col),
 fun v _=>v=.string ((⟨#[10]⟩:ByteArray)++preC col++(⟨#[34]⟩:ByteArray)++raw++(⟨#[34]⟩:ByteArray)++postC col),
 fun v _=>v=.string (data++((⟨#[10]⟩:ByteArray)++preC col++(⟨#[34]⟩:ByteArray)++raw++(⟨#[34]⟩:ByteArray)++postC col)),
 fun v _=>v=.string (data++((⟨#[10]⟩:ByteArray)++preC col++(⟨#[34]⟩:ByteArray)++raw++(⟨#[34]⟩:ByteArray)++postC col))]
theorem ldata9_gen(B g P n:Nat)(w:World)(hG:GenP w B g P)(hP:P<=10000)(hn:n<=10) :
  Calls Tryz.prog 100 #[.pointer (some ⟨g,0,none⟩),.int .i64 3,.int .i64 n] w fun e w'=>∃ data:ByteArray,e=.returned (.string data)/\data.size<=12+90000*n/\GenP w' B g (P+2+300*n)/\w.grownBy w' (some g):=by
 have HG:=hid hG;obtain⟨hgB,hB⟩:=hG.lt;clear hG;go_enter Tryz.func100,Tryz.ntmps100;go_wp2_with fail;refine(next_gen B g P 3 _ (HG.out.und ((Und.refl _).alloc (.cells #[.string ⟨#[116,101,120,116]⟩,.string ⟨#[105,100,44,116,101,120,116]⟩,.string ⟨#[34,97,44,98,34,44,116,101,120,116,44,99]⟩] 9))) (by omega) (by omega) (by omega)).mono ?_;rintro e w2 ⟨r,rfl,hr,hG2,hk2⟩
 obtain⟨hb,hhb,hhs,hhq⟩:∃ hb:ByteArray,(#[.string ⟨#[116,101,120,116]⟩,.string ⟨#[105,100,44,116,101,120,116]⟩,.string ⟨#[34,97,44,98,34,44,116,101,120,116,44,99]⟩]:Array Value)[r]?=some (.string hb)/\hb.size<=12/\((hb.size:Int) / 6=r):=by
  rcases(show r=0∨r=1∨r=2 by omega) with h|h|h <;> subst h <;> exact⟨_,rfl,by decide,rfl⟩
 have hcell:=lit_cell w w2 _ _ B g hk2 hgB hB r _ hhb;have HG2:=hid hG2;have HK2:=hid (gb_trans (((Und.refl w).alloc _).gb (some g)) hk2 (fun _ e=>.inl e));have hsz2:=HK2.out.size;haveI:LtW w.heap.size w2:=LtW.of (zbL _ _ hcell);have hr3:r<3:=by omega
 obtain⟨col,hcol⟩:∃ col,col=r:=⟨_,rfl⟩;clear hG2 hk2 HG hhb;go_wp2_with fail;refine(next_gen B g _ ((n:Int)+1) _ HG2.out (by omega) (by omega) (by omega)).mono ?_;rintro e w3 ⟨m,rfl,hm,hG3,hk3⟩;have HG3:=hid hG3;have HK3:=hid (gb_trans HK2.out hk3 (fun _ e=>.inl e));clear hG3 hk3 HG2 HK2 hcell;rw[<- hcol] at hr3 ⊢;clear hcol hr;go_wp2_with fail;go_loopw [7,9] (fun s7 s9 wr=>DaRel w B g P n col s7 s9 wr) (fun _ s9 _=>(intOf s9).toNat)
 case atStart=>exact⟨m,0,hb,rfl,rfl,by omega,by omega,HG3.out.le (by omega),HK3.out⟩
 case round=>
  clear HG3 HK3;obtain⟨i,k,data,rfl,rfl,hki,hds,hG,hk⟩:=hrel;have HG:=hid hG;have HK:=hid hk;have hszr:=hk.size;clear hG hk
  by_cases hi:0<i
  ·have z:(0:Int)<(i:Int):=by omega
   go_wp2_with fail;refine(frag_gen B g _ 5 _ HG.out (by omega) (by omega)).mono ?_;rintro e w4 ⟨v,f,rfl,ho,hgd,hfl,hft,hG4,hk4⟩;obtain⟨A4,c4,rfl,h41,h42,_⟩:=own_slice' ho;have HG4:=hid hG4;have HK4:=hid (gb_trans HK.out hk4 (fun _ e=>.inl e));have hit:=items_own ho rfl;have hbl:=fun b off (e:A4=some ⟨b,off,none⟩)=>owns_block ho b (by subst e;rfl)
   have HIT:=hid hit;clear hG4 hk4 ho hit hgd HG HK;go_wp2_with fail;have hlz:=lenL_tot f;refine(lraws_gen 3 (.inr (.inr rfl)) B g _ (5*tot f+3*f.length+10) (St.lenL f) A4 f.length c4 f _ HG4.out (by omega) rfl HIT.out (fun b off e=>by have:=hbl b off e;omega) (by omega) (by omega) rfl rfl).mono ?_;rintro e w5 ⟨raw,rfl,hrz,hG5,hk5⟩;have hrz:raw.size<=80000:=Nat.le_trans (Nat.le_trans hrz (Nat.mul_le_mul (show 5*tot f+3*f.length+10<=475 by omega) (show St.lenL f<=95 by omega))) (by decide);have HG5:=hid (hG5.le (show _<=P+2+300*(k+1) by omega));have HU5:=hid (gb_trans HK4.out hk5 (fun _ e=>.inl e));clear hG5 hk5 HG4 HK4 HIT hbl hlz;go_wp2_with fail;refine wp_region_facts (fun a b=>Und a b) (fun _ _=>True) (daF data raw col) Und.refl (fun a b c h k=>Und.trans h k) (by kernel_rfl) (by rfl) (by kernel_rfl) (by kernel_rfl) ?frD ?hfr ?hI ?hob ?hend
   case hfr=>
    intro ρ;simp only[putAll,Act.put,zsA,zsB,zsC,Nat.zero_add,Nat.reduceAdd];exact rfl
   case hI=>trivial
   case hob=>
    unfold daF;refine ObsF.cons (fun ρ L W hR hI hL hD hO hF K hK=>?_) ?_
    ·skip
     have eo:ρ 16=.string data:=hO 16 _ 7 rfl rfl (hD.not (p:=16) rfl (by decide) hL);clear hF hD hO hI hL hR;simp only[Act.put,zsA,zsB,zsC] at hK ⊢;rw[eo] at hK ⊢;go_simp;refine hK _ _ (Und.refl _) trivial (fun W2 h2=>?_);rfl
    refine ObsF.cons (fun ρ L W hR hI hL hD hO hF K hK=>?_) ?_
    ·skip
     clear hF hD hO hI hL hR;simp only[Act.put,zsA,zsB,zsC] at hK ⊢;go_simp;refine hK _ _ ((Und.refl W).alloc _) trivial (fun W2 h2=>⟨W.heap.size,rfl,by have:=h2.size;simp at this;omega,fun r hr=>?_⟩);rw[h2.cell (p:=⟨W.heap.size,r,none⟩) (by simp),World.cell?_alloc_at _ _ _ _ rfl];rcases(show r=0∨r=1∨r=2 by omega) with h|h|h <;> subst h <;> rfl
    refine ObsF.cons (fun ρ L W hR hI hL hD hO hF K hK=>?_) ?_
    ·skip
     clear hF hD hO hI hL hR;simp only[Act.put,zsA,zsB,zsC] at hK ⊢;go_simp;refine hK _ _ (Und.refl _) trivial (fun W2 h2=>?_);rfl
    refine ObsF.cons (fun ρ L W hR hI hL hD hO hF K hK=>?_) ?_
    ·skip
     have f1:=allF_get hF (j:=1) (by decide);have f2:=allF_get hF (j:=2) (by decide);clear hF hD hO hI hL hR;simp only[Act.put,zsA,zsB,zsC] at hK ⊢;obtain⟨b,e0,hb2,hc⟩:=f1;have e2:ρ 2=.int .i64 col:=f2;rw[e0,e2] at hK ⊢;have hix:col<3:=by omega
     have z1:((col:Nat):Int)<3:=by omega
     haveI:LtW b W:=LtW.of hb2;go_simp;refine hK _ _ (Und.refl _) trivial (fun W2 h2=>?_);exact⟨b,rfl,Nat.lt_of_lt_of_le hb2 h2.size,(h2.cell hb2).trans (hc _ hix)⟩
    refine ObsF.cons (fun ρ L W hR hI hL hD hO hF K hK=>?_) ?_
    ·skip
     have f3:=allF_get hF (j:=3) (by decide);clear hF hD hO hI hL hR;simp only[Act.put,zsA,zsB,zsC] at hK ⊢;obtain⟨b,e3,hb2,hc⟩:=f3;rw[e3] at hK ⊢;go_simp;refine hK _ _ (Und.refl _) trivial (fun W2 h2=>?_);rfl
    refine ObsF.cons (fun ρ L W hR hI hL hD hO hF K hK=>?_) ?_
    ·skip
     have f4:=allF_get hF (j:=4) (by decide);clear hF hD hO hI hL hR;simp only[Act.put,zsA,zsB,zsC] at hK ⊢;have e4:ρ 4=.string (preC col):=f4;rw[e4] at hK ⊢;have h1:=pre_sz col;have h2:=post_sz col;have y1:¬ 9223372036854775807<1+(preC col).size:=by omega
     go_simp;refine hK _ _ (Und.refl _) trivial (fun W2 h2=>?_);rfl
    refine ObsF.cons (fun ρ L W hR hI hL hD hO hF K hK=>?_) ?_
    ·skip
     have f5:=allF_get hF (j:=5) (by decide);clear hF hD hO hI hL hR;simp only[Act.put,zsA,zsB,zsC] at hK ⊢;have e5:ρ 5=.string ((⟨#[10]⟩:ByteArray)++preC col):=f5;rw[e5] at hK ⊢;have h1:=pre_sz col;have h2:=post_sz col;have y1:¬ 9223372036854775807<1+(preC col).size+1:=by omega
     go_simp;refine hK _ _ (Und.refl _) trivial (fun W2 h2=>?_);rfl
    refine ObsF.cons (fun ρ L W hR hI hL hD hO hF K hK=>?_) ?_
    ·skip
     clear hF hD hO hI hL hR;simp only[Act.put,zsA,zsB,zsC] at hK ⊢;go_simp;refine hK _ _ (Und.refl _) trivial (fun W2 h2=>?_);rfl
    refine ObsF.cons (fun ρ L W hR hI hL hD hO hF K hK=>?_) ?_
    ·skip
     have f6:=allF_get hF (j:=6) (by decide);have f7:=allF_get hF (j:=7) (by decide);clear hF hD hO hI hL hR;simp only[Act.put,zsA,zsB,zsC] at hK ⊢;have e6:ρ 6=.string ((⟨#[10]⟩:ByteArray)++preC col++(⟨#[34]⟩:ByteArray)):=f6;have e7:ρ 7=.string raw:=f7;rw[e6,e7] at hK ⊢;have h1:=pre_sz col;have h2:=post_sz col;have y1:¬ 9223372036854775807<1+(preC col).size+1+raw.size:=by omega
     go_simp;refine hK _ _ (Und.refl _) trivial (fun W2 h2=>?_);rfl
    refine ObsF.cons (fun ρ L W hR hI hL hD hO hF K hK=>?_) ?_
    ·skip
     have f8:=allF_get hF (j:=8) (by decide);clear hF hD hO hI hL hR;simp only[Act.put,zsA,zsB,zsC] at hK ⊢;have e8:ρ 8=.string ((⟨#[10]⟩:ByteArray)++preC col++(⟨#[34]⟩:ByteArray)++raw):=f8;rw[e8] at hK ⊢;have h1:=pre_sz col;have h2:=post_sz col;have y1:¬ 9223372036854775807<1+(preC col).size+1+raw.size+1:=by omega
     go_simp;refine hK _ _ (Und.refl _) trivial (fun W2 h2=>?_);rfl
    refine ObsF.cons (fun ρ L W hR hI hL hD hO hF K hK=>?_) ?_
    ·skip
     clear hF hD hO hI hL hR;simp only[Act.put,zsA,zsB,zsC] at hK ⊢;go_simp;refine hK _ _ ((Und.refl W).alloc _) trivial (fun W2 h2=>⟨W.heap.size,rfl,by have:=h2.size;simp at this;omega,fun r hr=>?_⟩);rw[h2.cell (p:=⟨W.heap.size,r,none⟩) (by simp),World.cell?_alloc_at _ _ _ _ rfl];rcases(show r=0∨r=1∨r=2 by omega) with h|h|h <;> subst h <;> rfl
    refine ObsF.cons (fun ρ L W hR hI hL hD hO hF K hK=>?_) ?_
    ·skip
     clear hF hD hO hI hL hR;simp only[Act.put,zsA,zsB,zsC] at hK ⊢;go_simp;refine hK _ _ (Und.refl _) trivial (fun W2 h2=>?_);rfl
    refine ObsF.cons (fun ρ L W hR hI hL hD hO hF K hK=>?_) ?_
    ·skip
     have f10:=allF_get hF (j:=10) (by decide);have f11:=allF_get hF (j:=11) (by decide);clear hF hD hO hI hL hR;simp only[Act.put,zsA,zsB,zsC] at hK ⊢;obtain⟨b,e0,hb2,hc⟩:=f10;have e2:ρ 11=.int .i64 col:=f11;rw[e0,e2] at hK ⊢;have hix:col<3:=by omega
     have z1:((col:Nat):Int)<3:=by omega
     haveI:LtW b W:=LtW.of hb2;go_simp;refine hK _ _ (Und.refl _) trivial (fun W2 h2=>?_);exact⟨b,rfl,Nat.lt_of_lt_of_le hb2 h2.size,(h2.cell hb2).trans (hc _ hix)⟩
    refine ObsF.cons (fun ρ L W hR hI hL hD hO hF K hK=>?_) ?_
    ·skip
     have f12:=allF_get hF (j:=12) (by decide);clear hF hD hO hI hL hR;simp only[Act.put,zsA,zsB,zsC] at hK ⊢;obtain⟨b,e3,hb2,hc⟩:=f12;rw[e3] at hK ⊢;go_simp;refine hK _ _ (Und.refl _) trivial (fun W2 h2=>?_);rfl
    refine ObsF.cons (fun ρ L W hR hI hL hD hO hF K hK=>?_) ?_
    ·skip
     have f9:=allF_get hF (j:=9) (by decide);have f13:=allF_get hF (j:=13) (by decide);clear hF hD hO hI hL hR;simp only[Act.put,zsA,zsB,zsC] at hK ⊢;have e9:ρ 9=.string ((⟨#[10]⟩:ByteArray)++preC col++(⟨#[34]⟩:ByteArray)++raw++(⟨#[34]⟩:ByteArray)):=f9;have e13:ρ 13=.string (postC col):=f13;rw[e9,e13] at hK ⊢;have h1:=pre_sz col;have h2:=post_sz col;have y1:¬ 9223372036854775807<1+(preC col).size+1+raw.size+1+(postC col).size:=by omega
     go_simp;refine hK _ _ (Und.refl _) trivial (fun W2 h2=>?_);rfl
    refine ObsF.cons (fun ρ L W hR hI hL hD hO hF K hK=>?_) ?_
    ·skip
     have f0:=allF_get hF (j:=0) (by decide);have f14:=allF_get hF (j:=14) (by decide);clear hF hD hO hI hL hR;simp only[Act.put,zsA,zsB,zsC] at hK ⊢;have e0:ρ 0=.string data:=f0;have e14:ρ 14=.string ((⟨#[10]⟩:ByteArray)++preC col++(⟨#[34]⟩:ByteArray)++raw++(⟨#[34]⟩:ByteArray)++postC col):=f14;rw[e0,e14] at hK ⊢;have h1:=pre_sz col;have h2:=post_sz col;have y1:¬ 9223372036854775807<data.size+(1+(preC col).size+1+raw.size+1+(postC col).size):=by omega
     go_simp;refine hK _ _ (Und.refl _) trivial (fun W2 h2=>?_);rfl
    refine ObsF.cons (fun ρ L W hR hI hL hD hO hF K hK=>?_) ?_
    ·skip
     have f15:=allF_get hF (j:=15) (by decide);clear hF hD hO hI hL hR;simp only[Act.put,zsA,zsB,zsC] at hK ⊢;have e15:ρ 15=.string (data++((⟨#[10]⟩:ByteArray)++preC col++(⟨#[34]⟩:ByteArray)++raw++(⟨#[34]⟩:ByteArray)++postC col)):=f15;rw[e15] at hK ⊢;go_simp;refine hK _ _ (Und.refl _) trivial (fun W2 h2=>?_);rfl
    exact ObsF.nil
   case hend=>
    intro ρ L W hR hI hL hF;obtain⟨_,_,_,_,_,_,_,_,_,_,_,_,_,_,_,_,  e16,_⟩:=hF;have e16:ρ 16=.string (data++((⟨#[10]⟩:ByteArray)++preC col++(⟨#[34]⟩:ByteArray)++raw++(⟨#[34]⟩:ByteArray)++postC col)):=e16;clear hI hL;rw[e16];have hu6:=hid (gb_und HU5.out ((Und.refl _).drew.trans hR));have hG6:=hid (HG5.out.und ((Und.refl _).drew.trans hR));clear hR e16;go_wp2;refine⟨⟨i-1,k+1,_,rfl,congrArg (Value.int .i64) (by omega),by omega,?_,hG6.out.le (by omega),hu6.out⟩,by simp[intOf];omega⟩;have h1:=pre_sz col;have h2:=post_sz col;simp only[ByteArray.size_append]
    show _+(1+_+1+_+1+_)<=_
    omega
  ·have z:¬ (0:Int)<(i:Int):=by omega
   go_wp2;go_ret;exact⟨data,rfl,by omega,HG.out.le (by omega),HK.out⟩
end
section
def attrL7(r:Nat):List UInt8:=if r=0 then [] else [32,99,61,34,49,34]
def tailL7(r:Nat):List UInt8:=if r=0 then [] else if r=1 then [10] else [60,104,114,47,62]
def attrC(q:Nat):ByteArray:=⟨(attrL7 q).toArray⟩
theorem attr_sz(q:Nat):(attrC q).size<=6:=by unfold attrC attrL7;split <;> decide
def tailN7(r:Nat):ByteArray:=⟨(tailL7 r).toArray⟩
theorem tailN7_sz(r:Nat):(tailN7 r).size<=5:=by unfold tailN7 tailL7;split;decide;split <;> decide
def D7Rel(w:World)(B g P m:Nat)(s7 s9:Value)(wr:World):Prop:=
 ∃ (i qn:Nat) (data:ByteArray),s7=.string data/\s9=.int .i64 i/\qn+i=m/\data.size<=13+90000*qn/\GenP wr B g (P+2+400*qn)/\w.grownBy wr (some g)
theorem ldata7_gen(B g P n:Nat)(w:World)(hG:GenP w B g P)(hP:P<=10000)(hn:n<=9) :
  Calls Tryz.prog 100 #[.pointer (some ⟨g,0,none⟩),.int .i64 1,.int .i64 n] w fun e w'=>∃ data:ByteArray,e=.returned (.string data)/\data.size<=13+90000*n/\GenP w' B g (P+2+400*n)/\w.grownBy w' (some g):=by
 have HG:=hid hG;obtain⟨hgB,hB⟩:=hG.lt;clear hG;go_enter Tryz.func100,Tryz.ntmps100;go_wp2_with fail;refine(next_gen B g P 3 _ (HG.out.und ((Und.refl _).alloc (.cells #[.string ⟨#[]⟩,.string ⟨#[60,104,116,109,108,62]⟩,.string ⟨#[60,33,45,45,32,60,112,62,32,45,45,62,120]⟩] 9))) (by omega) (by omega) (by omega)).mono ?_;rintro e w2 ⟨r,rfl,hr,hG2,hk2⟩
 obtain⟨hb,hhb,hhs⟩:∃ hb:ByteArray,(#[.string ⟨#[]⟩,.string ⟨#[60,104,116,109,108,62]⟩,.string ⟨#[60,33,45,45,32,60,112,62,32,45,45,62,120]⟩]:Array Value)[r]?=some (.string hb)/\hb.size<=13:=by
  rcases(show r=0∨r=1∨r=2 by omega) with h|h|h <;> subst h <;> exact⟨_,rfl,by decide⟩
 have hcell:=lit_cell w w2 _ _ B g hk2 hgB hB r _ hhb;have HG2:=hid hG2;have HK2:=hid (gb_trans (((Und.refl w).alloc _).gb (some g)) hk2 (fun _ e=>.inl e));have hsz2:=HK2.out.size;haveI:LtW w.heap.size w2:=LtW.of (zbL _ _ hcell);have hr3:r<3:=by omega
 clear hG2 hk2 HG hhb;go_wp2_with fail;refine(next_gen B g _ ((n:Int)+1) _ HG2.out (by omega) (by omega) (by omega)).mono ?_;rintro e w3 ⟨m,rfl,hm,hG3,hk3⟩;have HG3:=hid hG3;have HK3:=hid (gb_trans HK2.out hk3 (fun _ e=>.inl e));clear hG3 hk3 HG2 HK2 hcell;clear hr;go_wp2_with fail;go_loopw [7,9] (fun s7 s9 wr=>D7Rel w B g P m s7 s9 wr) (fun _ s9 _=>(intOf s9).toNat)
 case atStart=>exact⟨m,0,hb,rfl,rfl,by omega,by omega,HG3.out.le (by omega),HK3.out⟩
 case round=>
  clear HG3 HK3;obtain⟨i,qn,data,rfl,rfl,hki,hds,hG,hk⟩:=hrel;have HG:=hid hG;have HK:=hid hk;have hszr:=hk.size;clear hG hk
  by_cases hi:0<i
  ·have z:(0:Int)<(i:Int):=by omega
   go_wp2_with fail;refine(fragn_gen B g _ 5 _ HG.out (by omega) (by omega)).mono ?_;rintro e w4 ⟨v,f,cc,rfl,ho,hgt,hfl,hft,hcn,hG4,hk4⟩;obtain⟨A4,c4,rfl,h41,h42,_⟩:=own_slice' ho;have HG4:=hid hG4;have HK4:=hid (gb_trans HK.out hk4 (fun _ e=>.inl e));have hit:=items_own ho rfl;have hbl:=fun b off (e:A4=some ⟨b,off,none⟩)=>owns_block ho b (by subst e;rfl)
   have HIT:=hid hit;clear hG4 hk4 ho hit hgt HG HK;go_wp2_with fail;have hlz:=lenL_tot f;refine(lraws_gen 1 (.inl rfl) B g _ (5*tot f+3*f.length+10) (St.lenL f) A4 f.length c4 f _ HG4.out (by omega) rfl HIT.out (fun b off e=>by have:=hbl b off e;omega) (by omega) (by omega) rfl rfl).mono ?_;rintro e w5 ⟨raw,rfl,hrz,hG5,hk5⟩;have hrz:raw.size<=80000:=Nat.le_trans (Nat.le_trans hrz (Nat.mul_le_mul (show 5*tot f+3*f.length+10<=615 by omega) (show St.lenL f<=125 by omega))) (by decide);have HU5:=hid (gb_trans HK4.out hk5 (fun _ e=>.inl e));obtain⟨Q0,hQ,hG5⟩:∃ Q,Q+3<=P+2+400*(qn+1)/\GenP w5 B g Q:=⟨_,by omega,hG5⟩;have hQ2:Q0<=1000000:=by omega
   have HG5:=hid hG5;clear hG5 hk5 HG4 HK4 HIT hbl hlz;go_wp2_with fail;refine(next_gen B g Q0 3 _ (HG5.out.und ((Und.refl _).alloc (.cells #[.string ⟨#[112]⟩,.string ⟨#[108,105]⟩,.string ⟨#[116,105,116,108,101]⟩] 9))) (by omega) (by omega) (by omega)).mono ?_;rintro e w7 ⟨ni,rfl,hni,hG7,hk7⟩
   obtain⟨nm,hnm,hnms⟩:∃ nm:ByteArray,(#[.string ⟨#[112]⟩,.string ⟨#[108,105]⟩,.string ⟨#[116,105,116,108,101]⟩]:Array Value)[ni]?=some (.string nm)/\nm.size<=5:=by
    rcases(show ni=0∨ni=1∨ni=2 by omega) with h|h|h <;> subst h <;> exact⟨_,rfl,by decide⟩
   have hBw5:=HG5.out.lt;have hcell:=lit_cell w5 w7 _ _ B g hk7 hBw5.1 hBw5.2 ni _ hnm;have hnz:=hnms;have HU7:=hid (gb_trans (gb_und HU5.out ((Und.refl _).alloc _)) hk7 (fun _ e=>.inl e));obtain⟨Q,hQ,hG7⟩:∃ Q,Q=Q0+1/\GenP w7 B g Q:=⟨_,rfl,hG7⟩;have HG7:=hid hG7;have hsz7:=hk7.size;haveI:LtW w5.heap.size w7:=LtW.of (zbL _ _ hcell);have HNMS:=hid hnms;clear hG7 hk7 HG5 HU5 hnm hnms;go_wp2_with fail;refine wp_region_facts (fun a b=>a.grownBy b (some g)) (fun L W=>GenP W B g (Q+(if L 5 then 1 else 0)+(if L 18 then 1 else 0))) [fun v _=>v=.string data,fun v _=>v=.string nm,fun v _=>v=.string ((⟨#[60]⟩:ByteArray)++nm),fun v W=>∃ b,v=.slice (some ⟨b,0,none⟩) 2 2/\B<=b/\b<W.heap.size/\∀ r,r<2->W.cell? ⟨b,r,none⟩=some (.string (attrC r)),fun v _=>v=.pointer (some ⟨g,0,none⟩),fun v _=>∃ r:Nat,r<2/\v=.int .i64 r,fun v W=>∃ b r,r<2/\B<=b/\b<W.heap.size/\v=.pointer (some ⟨b,r,none⟩)/\W.cell? ⟨b,r,none⟩=some (.string (attrC r)),fun v _=>∃ r:Nat,r<2/\v=.string (attrC r),fun v _=>∃ q:Nat,q<2/\v=.string ((⟨#[60]⟩:ByteArray)++nm++attrC q),fun v _=>∃ q:Nat,q<2/\v=.string ((⟨#[60]⟩:ByteArray)++nm++attrC q++(⟨#[62]⟩:ByteArray)),fun v _=>v=.string raw,fun v _=>∃ q:Nat,q<2/\v=.string ((⟨#[60]⟩:ByteArray)++nm++attrC q++(⟨#[62]⟩:ByteArray)++raw),fun v _=>∃ q:Nat,q<2/\v=.string ((⟨#[60]⟩:ByteArray)++nm++attrC q++(⟨#[62]⟩:ByteArray)++raw++(⟨#[60,47]⟩:ByteArray)),fun v _=>v=.string nm,fun v _=>∃ q:Nat,q<2/\v=.string ((⟨#[60]⟩:ByteArray)++nm++attrC q++(⟨#[62]⟩:ByteArray)++raw++(⟨#[60,47]⟩:ByteArray)++nm),fun v _=>∃ q:Nat,q<2/\v=.string ((⟨#[60]⟩:ByteArray)++nm++attrC q++(⟨#[62]⟩:ByteArray)++raw++(⟨#[60,47]⟩:ByteArray)++nm++(⟨#[62]⟩:ByteArray)),fun v W=>∃ b,v=.slice (some ⟨b,0,none⟩) 3 3/\B<=b/\b<W.heap.size/\∀ r,r<3->W.cell? ⟨b,r,none⟩=some (.string (tailN7 r)),fun v _=>v=.pointer (some ⟨g,0,none⟩),fun v _=>∃ r:Nat,r<3/\v=.int .i64 r,fun v W=>∃ b r,r<3/\B<=b/\b<W.heap.size/\v=.pointer (some ⟨b,r,none⟩)/\W.cell? ⟨b,r,none⟩=some (.string (tailN7 r)),fun v _=>∃ r:Nat,r<3/\v=.string (tailN7 r),fun v _=>∃ q r:Nat,q<2/\r<3/\v=.string ((⟨#[60]⟩:ByteArray)++nm++attrC q++(⟨#[62]⟩:ByteArray)++raw++(⟨#[60,47]⟩:ByteArray)++nm++(⟨#[62]⟩:ByteArray)++tailN7 r),fun v _=>∃ q r:Nat,q<2/\r<3/\v=.string (data++((⟨#[60]⟩:ByteArray)++nm++attrC q++(⟨#[62]⟩:ByteArray)++raw++(⟨#[60,47]⟩:ByteArray)++nm++(⟨#[62]⟩:ByteArray)++tailN7 r)),fun v _=>∃ q r:Nat,q<2/\r<3/\v=.string (data++((⟨#[60]⟩:ByteArray)++nm++attrC q++(⟨#[62]⟩:ByteArray)++raw++(⟨#[60,47]⟩:ByteArray)++nm++(⟨#[62]⟩:ByteArray)++tailN7 r))] (fun a=>gb_refl a _) (fun a b c h k=>gb_trans h k (fun _ e=>.inl e)) (by kernel_rfl) (by rfl) (by kernel_rfl) (by kernel_rfl) ?fr ?hfr ?hI ?hob ?hend
   case hfr=>
    intro ρ;simp only[putAll,Act.put,zsA,zsB,zsC,Nat.zero_add,Nat.reduceAdd];exact rfl
   case hI=>exact(HG7.out.und (by exact(by apply_rules[uUe,uUa,uUb,uUc,uUd]))).le (by simp)
   case hob=>
    refine ObsF.cons (fun ρ L W hR hI hL hD hO hF K hK=>?_) ?_
    ·have hgW:g<W.heap.size:=Nat.lt_of_lt_of_le hI.lt.1 hI.lt.2
     have hBW:=hI.lt.2;have eo:ρ 23=.string data:=hO 23 _ 7 rfl rfl (hD.not (p:=23) rfl (by decide) hL);clear hF hD hO;simp only[Act.put,zsA,zsB,zsC] at hK ⊢;rw[eo] at hK ⊢;go_simp;refine hK _ _ (gb_refl _ _) (by simpa [updB] using hI) (fun W2 h2=>?_);rfl
    refine ObsF.cons (fun ρ L W hR hI hL hD hO hF K hK=>?_) ?_
    ·have hgW:g<W.heap.size:=Nat.lt_of_lt_of_le hI.lt.1 hI.lt.2
     have hBW:=hI.lt.2;clear hF hD hO;simp only[Act.put,zsA,zsB,zsC] at hK ⊢;go_simp;refine hK _ _ (gb_refl _ _) (by simpa [updB] using hI) (fun W2 h2=>?_);rfl
    refine ObsF.cons (fun ρ L W hR hI hL hD hO hF K hK=>?_) ?_
    ·have hgW:g<W.heap.size:=Nat.lt_of_lt_of_le hI.lt.1 hI.lt.2
     have hBW:=hI.lt.2;have f1:=allF_get hF (j:=1) (by decide);clear hF hD hO;simp only[Act.put,zsA,zsB,zsC] at hK ⊢;have e1:ρ 1=.string nm:=f1;rw[e1] at hK ⊢;have y1:¬ 9223372036854775807<1+nm.size:=by omega
     go_simp;refine hK _ _ (gb_refl _ _) (by simpa [updB] using hI) (fun W2 h2=>?_);rfl
    refine ObsF.cons (fun ρ L W hR hI hL hD hO hF K hK=>?_) ?_
    ·have hgW:g<W.heap.size:=Nat.lt_of_lt_of_le hI.lt.1 hI.lt.2
     have hBW:=hI.lt.2;clear hF hD hO;simp only[Act.put,zsA,zsB,zsC] at hK ⊢;go_simp;refine hK _ _ (((Und.refl W).alloc _).gb _) (by simpa [updB] using hI.und ((Und.refl W).alloc _)) (fun W2 h2=>⟨W.heap.size,rfl,hBW,by have:=h2.size;simp at this;omega,fun r hr=>?_⟩);rw[gb_cell h2 (p:=⟨W.heap.size,r,none⟩) (by simp) (by simp;omega),World.cell?_alloc_at _ _ _ _ rfl];rcases(show r=0∨r=1 by omega) with h|h <;> subst h <;> rfl
    refine ObsF.cons (fun ρ L W hR hI hL hD hO hF K hK=>?_) ?_
    ·have hgW:g<W.heap.size:=Nat.lt_of_lt_of_le hI.lt.1 hI.lt.2
     have hBW:=hI.lt.2;clear hF hD hO;simp only[Act.put,zsA,zsB,zsC] at hK ⊢;go_simp;refine hK _ _ (gb_refl _ _) (by simpa [updB] using hI) (fun W2 h2=>?_);rfl
    refine ObsF.cons (fun ρ L W hR hI hL hD hO hF K hK=>?_) ?_
    ·have hgW:g<W.heap.size:=Nat.lt_of_lt_of_le hI.lt.1 hI.lt.2
     have hBW:=hI.lt.2;have f4:=allF_get hF (j:=4) (by decide);clear hF hD hO;simp only[Act.put,zsA,zsB,zsC] at hK ⊢;have e4:ρ 4=.pointer (some ⟨g,0,none⟩):=f4;rw[e4] at hK ⊢;have hI0:GenP W B g (Q+(if L 18 then 1 else 0)):=hI.le (by simp[hL]);refine step_callE (o:=⟨some 81,_,_,_,_,_⟩) rfl 64 #[.pointer (some ⟨g,0,none⟩),.int .i64 2] _ (next_gen B g (Q+(if L 18 then 1 else 0)) 2 W hI0 (by split <;> omega) (by omega) (by omega)) ?_ ?_
     ·go_simp
     rintro e W2 ⟨r,rfl,hr,hG2,hk⟩;exact⟨_,rfl,hK _ _ hk (hG2.le (by simp[updB];try omega)) (fun W3 h3=>⟨r,by omega,rfl⟩)⟩
    refine ObsF.cons (fun ρ L W hR hI hL hD hO hF K hK=>?_) ?_
    ·have hgW:g<W.heap.size:=Nat.lt_of_lt_of_le hI.lt.1 hI.lt.2
     have hBW:=hI.lt.2;have f3:=allF_get hF (j:=3) (by decide);have f5:=allF_get hF (j:=5) (by decide);clear hF hD hO;simp only[Act.put,zsA,zsB,zsC] at hK ⊢;obtain⟨b,e0,hb1,hb2,hc⟩:=f3;obtain⟨r,hr,e2⟩:=f5;rw[e0,e2] at hK ⊢;have z1:(r:Int)<2:=by omega
     haveI:LtW b W:=LtW.of hb2;go_simp;refine hK _ _ (gb_refl _ _) (by simpa [updB] using hI) (fun W2 h2=>?_);have hc2:=(gb_cell h2 (p:=⟨b,r,none⟩) hb2 (by simp;omega)).trans (hc r hr);exact⟨b,r,hr,hb1,Nat.lt_of_lt_of_le hb2 h2.size,rfl,hc2⟩
    refine ObsF.cons (fun ρ L W hR hI hL hD hO hF K hK=>?_) ?_
    ·have hgW:g<W.heap.size:=Nat.lt_of_lt_of_le hI.lt.1 hI.lt.2
     have hBW:=hI.lt.2;have f6:=allF_get hF (j:=6) (by decide);clear hF hD hO;simp only[Act.put,zsA,zsB,zsC] at hK ⊢;obtain⟨b,r,hr,hb1,hb2,e3,hc⟩:=f6;rw[e3] at hK ⊢;haveI:LtW b W:=LtW.of hb2;go_simp;refine hK _ _ (gb_refl _ _) (by simpa [updB] using hI) (fun W2 h2=>?_);exact⟨r,hr,rfl⟩
    refine ObsF.cons (fun ρ L W hR hI hL hD hO hF K hK=>?_) ?_
    ·have hgW:g<W.heap.size:=Nat.lt_of_lt_of_le hI.lt.1 hI.lt.2
     have hBW:=hI.lt.2;have f2:=allF_get hF (j:=2) (by decide);have f7:=allF_get hF (j:=7) (by decide);clear hF hD hO;simp only[Act.put,zsA,zsB,zsC] at hK ⊢;have e2:ρ 2=.string ((⟨#[60]⟩:ByteArray)++nm):=f2;obtain⟨q,hq,e7⟩:=f7;rw[e2,e7] at hK ⊢;have hql:=attr_sz q;have y1:¬ 9223372036854775807<1+nm.size+(attrC q).size:=by omega
     go_simp;refine hK _ _ (gb_refl _ _) (by simpa [updB] using hI) (fun W2 h2=>?_);exact⟨q,hq,rfl⟩
    refine ObsF.cons (fun ρ L W hR hI hL hD hO hF K hK=>?_) ?_
    ·have hgW:g<W.heap.size:=Nat.lt_of_lt_of_le hI.lt.1 hI.lt.2
     have hBW:=hI.lt.2;have f8:=allF_get hF (j:=8) (by decide);clear hF hD hO;simp only[Act.put,zsA,zsB,zsC] at hK ⊢;obtain⟨q,hq,e8⟩:=f8;rw[e8] at hK ⊢;have hql:=attr_sz q;have y1:¬ 9223372036854775807<1+nm.size+(attrC q).size+1:=by omega
     go_simp;refine hK _ _ (gb_refl _ _) (by simpa [updB] using hI) (fun W2 h2=>?_);exact⟨q,hq,rfl⟩
    refine ObsF.cons (fun ρ L W hR hI hL hD hO hF K hK=>?_) ?_
    ·have hgW:g<W.heap.size:=Nat.lt_of_lt_of_le hI.lt.1 hI.lt.2
     have hBW:=hI.lt.2;clear hF hD hO;simp only[Act.put,zsA,zsB,zsC] at hK ⊢;go_simp;refine hK _ _ (gb_refl _ _) (by simpa [updB] using hI) (fun W2 h2=>?_);rfl
    refine ObsF.cons (fun ρ L W hR hI hL hD hO hF K hK=>?_) ?_
    ·have hgW:g<W.heap.size:=Nat.lt_of_lt_of_le hI.lt.1 hI.lt.2
     have hBW:=hI.lt.2;have f9:=allF_get hF (j:=9) (by decide);have f10:=allF_get hF (j:=10) (by decide);clear hF hD hO;simp only[Act.put,zsA,zsB,zsC] at hK ⊢;obtain⟨q,hq,e9⟩:=f9;have e10:ρ 10=.string raw:=f10;rw[e9,e10] at hK ⊢;have hql:=attr_sz q;have y1:¬ 9223372036854775807<1+nm.size+(attrC q).size+1+raw.size:=by omega
     go_simp;refine hK _ _ (gb_refl _ _) (by simpa [updB] using hI) (fun W2 h2=>?_);exact⟨q,hq,rfl⟩
    refine ObsF.cons (fun ρ L W hR hI hL hD hO hF K hK=>?_) ?_
    ·have hgW:g<W.heap.size:=Nat.lt_of_lt_of_le hI.lt.1 hI.lt.2
     have hBW:=hI.lt.2;have f11:=allF_get hF (j:=11) (by decide);clear hF hD hO;simp only[Act.put,zsA,zsB,zsC] at hK ⊢;obtain⟨q,hq,e11⟩:=f11;rw[e11] at hK ⊢;have hql:=attr_sz q;have y1:¬ 9223372036854775807<1+nm.size+(attrC q).size+1+raw.size+2:=by omega
     go_simp;refine hK _ _ (gb_refl _ _) (by simpa [updB] using hI) (fun W2 h2=>?_);exact⟨q,hq,rfl⟩
    refine ObsF.cons (fun ρ L W hR hI hL hD hO hF K hK=>?_) ?_
    ·have hgW:g<W.heap.size:=Nat.lt_of_lt_of_le hI.lt.1 hI.lt.2
     have hBW:=hI.lt.2;clear hF hD hO;simp only[Act.put,zsA,zsB,zsC] at hK ⊢;go_simp;refine hK _ _ (gb_refl _ _) (by simpa [updB] using hI) (fun W2 h2=>?_);rfl
    refine ObsF.cons (fun ρ L W hR hI hL hD hO hF K hK=>?_) ?_
    ·have hgW:g<W.heap.size:=Nat.lt_of_lt_of_le hI.lt.1 hI.lt.2
     have hBW:=hI.lt.2;have f12:=allF_get hF (j:=12) (by decide);have f13:=allF_get hF (j:=13) (by decide);clear hF hD hO;simp only[Act.put,zsA,zsB,zsC] at hK ⊢;obtain⟨q,hq,e12⟩:=f12;have e13:ρ 13=.string nm:=f13;rw[e12,e13] at hK ⊢;have hql:=attr_sz q;have y1:¬ 9223372036854775807<1+nm.size+(attrC q).size+1+raw.size+2+nm.size:=by omega
     go_simp;refine hK _ _ (gb_refl _ _) (by simpa [updB] using hI) (fun W2 h2=>?_);exact⟨q,hq,rfl⟩
    refine ObsF.cons (fun ρ L W hR hI hL hD hO hF K hK=>?_) ?_
    ·have hgW:g<W.heap.size:=Nat.lt_of_lt_of_le hI.lt.1 hI.lt.2
     have hBW:=hI.lt.2;have f14:=allF_get hF (j:=14) (by decide);clear hF hD hO;simp only[Act.put,zsA,zsB,zsC] at hK ⊢;obtain⟨q,hq,e14⟩:=f14;rw[e14] at hK ⊢;have hql:=attr_sz q;have y1:¬ 9223372036854775807<1+nm.size+(attrC q).size+1+raw.size+2+nm.size+1:=by omega
     go_simp;refine hK _ _ (gb_refl _ _) (by simpa [updB] using hI) (fun W2 h2=>?_);exact⟨q,hq,rfl⟩
    refine ObsF.cons (fun ρ L W hR hI hL hD hO hF K hK=>?_) ?_
    ·have hgW:g<W.heap.size:=Nat.lt_of_lt_of_le hI.lt.1 hI.lt.2
     have hBW:=hI.lt.2;clear hF hD hO;simp only[Act.put,zsA,zsB,zsC] at hK ⊢;go_simp;refine hK _ _ (((Und.refl W).alloc _).gb _) (by simpa [updB] using hI.und ((Und.refl W).alloc _)) (fun W2 h2=>⟨W.heap.size,rfl,hBW,by have:=h2.size;simp at this;omega,fun r hr=>?_⟩);rw[gb_cell h2 (p:=⟨W.heap.size,r,none⟩) (by simp) (by simp;omega),World.cell?_alloc_at _ _ _ _ rfl];rcases(show r=0∨r=1∨r=2 by omega) with h|h|h <;> subst h <;> rfl
    refine ObsF.cons (fun ρ L W hR hI hL hD hO hF K hK=>?_) ?_
    ·have hgW:g<W.heap.size:=Nat.lt_of_lt_of_le hI.lt.1 hI.lt.2
     have hBW:=hI.lt.2;clear hF hD hO;simp only[Act.put,zsA,zsB,zsC] at hK ⊢;go_simp;refine hK _ _ (gb_refl _ _) (by simpa [updB] using hI) (fun W2 h2=>?_);rfl
    refine ObsF.cons (fun ρ L W hR hI hL hD hO hF K hK=>?_) ?_
    ·have hgW:g<W.heap.size:=Nat.lt_of_lt_of_le hI.lt.1 hI.lt.2
     have hBW:=hI.lt.2;have f17:=allF_get hF (j:=17) (by decide);clear hF hD hO;simp only[Act.put,zsA,zsB,zsC] at hK ⊢;have e17:ρ 17=.pointer (some ⟨g,0,none⟩):=f17;rw[e17] at hK ⊢;have hI0:GenP W B g (Q+(if L 5 then 1 else 0)):=hI.le (by simp[hL]);refine step_callE (o:=⟨some 94,_,_,_,_,_⟩) rfl 64 #[.pointer (some ⟨g,0,none⟩),.int .i64 3] _ (next_gen B g (Q+(if L 5 then 1 else 0)) 3 W hI0 (by split <;> omega) (by omega) (by omega)) ?_ ?_
     ·go_simp
     rintro e W2 ⟨r,rfl,hr,hG2,hk⟩;exact⟨_,rfl,hK _ _ hk (hG2.le (by simp[updB];try omega)) (fun W3 h3=>⟨r,by omega,rfl⟩)⟩
    refine ObsF.cons (fun ρ L W hR hI hL hD hO hF K hK=>?_) ?_
    ·have hgW:g<W.heap.size:=Nat.lt_of_lt_of_le hI.lt.1 hI.lt.2
     have hBW:=hI.lt.2;have f16:=allF_get hF (j:=16) (by decide);have f18:=allF_get hF (j:=18) (by decide);clear hF hD hO;simp only[Act.put,zsA,zsB,zsC] at hK ⊢;obtain⟨b,e0,hb1,hb2,hc⟩:=f16;obtain⟨r,hr,e2⟩:=f18;rw[e0,e2] at hK ⊢;have z1:(r:Int)<3:=by omega
     haveI:LtW b W:=LtW.of hb2;go_simp;refine hK _ _ (gb_refl _ _) (by simpa [updB] using hI) (fun W2 h2=>?_);have hc2:=(gb_cell h2 (p:=⟨b,r,none⟩) hb2 (by simp;omega)).trans (hc r hr);exact⟨b,r,hr,hb1,Nat.lt_of_lt_of_le hb2 h2.size,rfl,hc2⟩
    refine ObsF.cons (fun ρ L W hR hI hL hD hO hF K hK=>?_) ?_
    ·have hgW:g<W.heap.size:=Nat.lt_of_lt_of_le hI.lt.1 hI.lt.2
     have hBW:=hI.lt.2;have f19:=allF_get hF (j:=19) (by decide);clear hF hD hO;simp only[Act.put,zsA,zsB,zsC] at hK ⊢;obtain⟨b,r,hr,hb1,hb2,e3,hc⟩:=f19;rw[e3] at hK ⊢;haveI:LtW b W:=LtW.of hb2;go_simp;refine hK _ _ (gb_refl _ _) (by simpa [updB] using hI) (fun W2 h2=>?_);exact⟨r,hr,rfl⟩
    refine ObsF.cons (fun ρ L W hR hI hL hD hO hF K hK=>?_) ?_
    ·have hgW:g<W.heap.size:=Nat.lt_of_lt_of_le hI.lt.1 hI.lt.2
     have hBW:=hI.lt.2;have f15:=allF_get hF (j:=15) (by decide);have f20:=allF_get hF (j:=20) (by decide);clear hF hD hO;simp only[Act.put,zsA,zsB,zsC] at hK ⊢;obtain⟨q,hq,e15⟩:=f15;obtain⟨r,hr,e20⟩:=f20;rw[e15,e20] at hK ⊢;have hql:=attr_sz q;have hbl:=tailN7_sz r;have y1:¬ 9223372036854775807<1+nm.size+(attrC q).size+1+raw.size+2+nm.size+1+(tailN7 r).size:=by omega
     go_simp;refine hK _ _ (gb_refl _ _) (by simpa [updB] using hI) (fun W2 h2=>?_);exact⟨q,r,hq,hr,rfl⟩
    refine ObsF.cons (fun ρ L W hR hI hL hD hO hF K hK=>?_) ?_
    ·have hgW:g<W.heap.size:=Nat.lt_of_lt_of_le hI.lt.1 hI.lt.2
     have hBW:=hI.lt.2;have f0:=allF_get hF (j:=0) (by decide);have f21:=allF_get hF (j:=21) (by decide);clear hF hD hO;simp only[Act.put,zsA,zsB,zsC] at hK ⊢;have e0:ρ 0=.string data:=f0;obtain⟨q,r,hq,hr,e21⟩:=f21;rw[e0,e21] at hK ⊢;have hql:=attr_sz q;have hbl:=tailN7_sz r;have y1:¬ 9223372036854775807<data.size+(1+nm.size+(attrC q).size+1+raw.size+2+nm.size+1+(tailN7 r).size):=by omega
     go_simp;refine hK _ _ (gb_refl _ _) (by simpa [updB] using hI) (fun W2 h2=>?_);exact⟨q,r,hq,hr,rfl⟩
    refine ObsF.cons (fun ρ L W hR hI hL hD hO hF K hK=>?_) ?_
    ·have hgW:g<W.heap.size:=Nat.lt_of_lt_of_le hI.lt.1 hI.lt.2
     have hBW:=hI.lt.2;have f22:=allF_get hF (j:=22) (by decide);clear hF hD hO;simp only[Act.put,zsA,zsB,zsC] at hK ⊢;obtain⟨q,r,hq,hr,e22⟩:=f22;rw[e22] at hK ⊢;go_simp;refine hK _ _ (gb_refl _ _) (by simpa [updB] using hI) (fun W2 h2=>?_);exact⟨q,r,hq,hr,rfl⟩
    exact ObsF.nil
   case hend=>
    intro ρ L W hR hI hL hF;obtain⟨_,_,_,_,_,_,_,_,_,_,_,_,_,_,_,_,_,_,_,_,_,_,_,⟨q,r,hq,hr,g23⟩,_⟩:=hF;have hGW:GenP W B g (Q+2):=hI.le (by split <;> split <;> omega);have HGW:=hid hGW;have HUW:=hid (gb_trans (gb_und HU7.out (show Und w7 w7.drew from(Und.refl _).drew)) hR (fun _ e=>.inl e));have hql:=attr_sz q;have hbl:=tailN7_sz r;clear hI hR hL hGW HU7 HG7;rw[g23];clear g23;go_wp2;refine⟨⟨i-1,qn+1,_,rfl,congrArg (Value.int .i64) (by omega),by omega,?_,HGW.out.le (by omega),HUW.out⟩,by simp[intOf];omega⟩;simp only[ByteArray.size_append]
    show _+(1+_+_+1+_+2+_+1+_)<=_
    omega
  ·have z:¬ (0:Int)<(i:Int):=by omega
   have hlen:qn=m:=by omega
   go_wp2;go_ret;exact⟨data,rfl,by omega,HG.out.le (by omega),HK.out⟩
end
end Go.Proofs.YthoemdibbldndaaGreatDoor
