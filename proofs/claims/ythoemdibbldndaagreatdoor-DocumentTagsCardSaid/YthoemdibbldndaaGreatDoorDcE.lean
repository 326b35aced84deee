/- The reference's Parse, Bytes, Same and Validate of documents, over its splitting. -/
import Derived.Test.YthoemdibbldndaaGreatDoorDcB
set_option linter.all false
set_option maxHeartbeats 0
set_option maxRecDepth 20000
open Go.Value renaming int->UM,slice->UO,tuple->UR
open Go.IntKind renaming i64->US
open Option renaming none->UW,some->UX
open Go renaming World->UY
namespace Go.Proofs.YthoemdibbldndaaGreatDoor
open Go.RowKit
section
variable {fmt:Int} {S:List UInt8->List St.Pt × Nat × Int}
structure Ap (fmt:Int) (S:List UInt8->List St.Pt × Nat × Int):Prop where
 kn:fmt=1\/fmt=2\/fmt=3
 sW:∀(d:ByteArray) (w:UY),d.size<=1000000000->Calls Tryz.prog 60 #[UM US fmt,.string d] w λe w'=>∃A c,e=.returned (UR #[UO A (S d.1.1).1.length c,UM US ((S d.1.1).2.1:Int),UM US (S d.1.1).2.2])/\bn w' A (S d.1.1).1/\(S d.1.1).1.length<=c/\c<=9223372036854775807/\ac w w'
theorem tR(fmt:Int)(w:UY)(h:fmt=1\/fmt=2\/fmt=3):Calls Tryz.prog 59 #[UM US fmt] w λe w'=>e=.returned (.bool true)/\w=w':=by
 rcases h with rfl|rfl|rfl
 all_goals
  go_enter Tryz.func59,Tryz.ntmps59;go_wp2;go_ret;exact⟨rfl,rfl⟩
theorem CO(fmt:Int)(w:UY)(h:¬(fmt=1\/fmt=2\/fmt=3)):Calls Tryz.prog 59 #[UM US fmt] w λe w'=>e=.returned (.bool false)/\w=w':=by
 have z1:(fmt==1)=false:=by simp;omega
 have z2:(fmt==2)=false:=by simp;omega
 have z3:(fmt==3)=false:=by simp;omega
 go_enter Tryz.func59,Tryz.ntmps59;go_wp2;go_ret;exact⟨rfl,rfl⟩
theorem IA(d:ByteArray)(w:UY)(hF:Ap fmt S)(hd:d.size<=1000000000):Calls Tryz.prog 21 #[UM US fmt,.string d] w (ua fmt (S d.1.1) w):=by
 have HK:=aa (λW=>tR fmt W hF.kn);have HS:=aa (λW=>hF.sW d W hd);generalize S d.1.1=R at HS |-;obtain⟨ps,pl,er⟩:=R;clear hF;go_enter Tryz.func21,Tryz.ntmps21;go_wp2_with fail;refine(HK.out _).mono ?_;rintro e w2 ⟨rfl,rfl⟩;go_wp2_with fail;refine(HS.out _).mono ?_;rintro e w3 ⟨A,c,rfl,hP,h1,h2,hu⟩;have hu':ac w w3:=ac.trans (uZ) hu;have hb3:=(hu.below.block w.1.size (by simp)).trans (heap_alloc_new w (.cells #[UM US 0,UO UW 0 0] 25));have d0:w3.cell? ⟨w.1.size,0,UW⟩=UX (UM US 0):=ak hb3 0;have d1:w3.cell? ⟨w.1.size,1,UW⟩=UX (UO UW 0 0):=ak hb3 1;have f0:w3.frozen? ⟨w.1.size,0,UW⟩=false:=bk hb3 0;have f1:w3.frozen? ⟨w.1.size,1,UW⟩=false:=bk hb3 1;haveI:af w.1.size w3:=af.of (ae hb3);have kN:∀u v,ac w ((w3.setCell ⟨w.1.size,0,UW⟩ u).setCell ⟨w.1.size,1,UW⟩ v):=λu v=>ac.mk ((hu'.below.setCell (p:=⟨w.1.size,0,UW⟩) (Nat.le_refl _) u).setCell (p:=⟨w.1.size,1,UW⟩) (Nat.le_refl _) v)
 have Ag:=aa kN;have Nq:=aa (λu v=>gQ hP hb3 u v);simp only at h1 |-;clear hu hu' hb3 kN hP
 by_cases he:er=0
 ·subst he;go_wp2;refine bodyPost_ret (v:=UR #[.agg #[UM US fmt,UO A ps.length c],UM US 0,UM US 0]) ?_ rfl ?_
  ·simp[results,Tryz.results21,go_sem,d0,d1]
  exact⟨Ag.out _ _,.inl ⟨rfl,A,c,rfl,Nq.out _ _,h1,h2⟩⟩
 have z1:(er==0)=false:=by simpa using he
 have z2:(er != 0)=true:=by simpa using he
 have HE:=aa he;clear he;go_wp2;refine bodyPost_ret (v:=UR #[.agg #[UM US 0,UO UW 0 0],UM US pl,UM US er]) ?_ rfl ?_
 ·simp[results,Tryz.results21,go_sem,d0,d1]
 exact⟨Ag.out _ _,.inr ⟨HE.out,rfl⟩⟩
end
section
variable {fmt:Int} {S:List UInt8->List St.Pt × Nat × Int}
end
section
def jn(ps:List St.Pt):List Nat:=(List.range ps.length).filter λi=>(ps[i]?.map (·.1)).getD false
def j2(ps:List St.Pt)(k:Nat):List Nat:=(List.range k).filter λi=>(ps[i]?.map (·.1)).getD false
theorem F5(ps:List St.Pt)(k:Nat)(h:k<ps.length):j2 ps (k+1)=j2 ps k++(if ps[k].1=true then[k]else[]):=by
 unfold j2;rw[List.range_succ,List.filter_append];congr 1;simp only[List.filter_cons,List.filter_nil,List.getElem?_eq_getElem h,Option.map_some,Option.getD_some]
theorem zh(ps:List St.Pt)(k:Nat):(j2 ps k).length<=k:=by
 unfold j2;exact Nat.le_trans (List.length_filter_le _ _) (by simp)
def Eu(ps:List St.Pt)(w:UY)(e:Ending)(w':UY):Prop:=∃A c,e=.returned (UO A (jn ps).length c)/\iw w' A (jn ps)/\(jn ps).length<=c/\c<=9223372036854775807/\ac w w'
def Ev(w W1:UY)(ps:List St.Pt)(n:Nat)(s3 s:Value)(wr:UY):Prop:=∃k:Nat,k<=n/\s=UM US k/\wr.ownsRow (w.1.size+1) 3 1 s3 (j2 ps k).length (ew (j2 ps k))/\ac W1 wr
theorem FM(fmt:Int)(A:Option Addr)(n c:Nat)(ps:List St.Pt)(w:UY)(hn:ps.length=n)(h:bn w A ps)(hl:n<=4000000000000) :
  Calls Tryz.prog 38 #[.agg #[UM US fmt,UO A n c]] w (Eu ps w):=by
 have H:=aa h;have HN:=aa hn;obtain⟨i0,hi,hz0,hz1,hz2⟩:=info_parts gv;have hb0:=heap_alloc_new w (.cells #[UM US fmt,UO A n c] 25);clear h hn;go_enter Tryz.func38,Tryz.ntmps38;go_wp2_with fail;go_loopw [3,8] (λs3 s wr=>Ev w (w.alloc (.cells #[UM US fmt,UO A n c] 25)) ps n s3 s wr) (λ_ s _=>n+1-(intOf s).toNat)
 case atStart=>exact⟨0,by omega,rfl,World.ownsRow_nil _ _ _ _,ac.refl _⟩
 case round=>
  obtain⟨k,hk,rfl,hown,hu⟩:=hrel;have hN:=HN.out;have hb1:=(hu.below.block w.1.size (by simp)).trans hb0;have d0:wr.cell? ⟨w.1.size,0,UW⟩=UX (UM US fmt):=ak hb1 0;have d1:wr.cell? ⟨w.1.size,1,UW⟩=UX (UO A n c):=ak hb1 1;haveI:af w.1.size wr:=af.of (ae hb1);have HU:=aa hu;have HO:=aa hown;have iu:=aa (ac.trans (uZ:ac w (w.alloc (.cells #[UM US fmt,UO A n c] 25))) hu);have hsz:=iu.out.size;have mT:=zh ps k;obtain⟨Ao,co,rfl,hco1,hco2⟩:=aL hown
  by_cases hlt:k<n
  ·have aS:k<ps.length:=by omega
   have Bf:=F5 ps k aS;obtain⟨b,off,rfl,hb,hc⟩:=(H.out.ai iu.out) (by omega);obtain⟨c0,c1,c2⟩:=hc k aS;generalize ps[k]=x at c0 c1 c2 Bf;obtain⟨xu,xk,xr⟩:=x;simp only at c0 c1 c2 Bf;haveI:af b wr:=af.of hb;have z1:(k:Int)<(n:Int):=by omega
   have z0:(0:Int)<=(k:Int):=by omega
   have Qq:=aa Bf;generalize QX:j2 ps k=us at *;have Ub:=aa QX;clear hc aS hu hb1 hown Bf QX;cases xu
   ·have HE:=aa (λ(wz:UY) (hz:ac wr wz)=>(show Ev w (w.alloc (.cells #[UM US fmt,UO (UX ⟨b,off,UW⟩) n c] 25)) ps n (UO Ao us.length co) (UM US ((k:Int)+1)) wz from
     ⟨k+1,by omega,congrArg (UM US) (by omega),by rw[Qq.out,if_neg (by simp),List.append_nil];exact aE hz HO.out,HU.out.trans hz⟩))
    go_wp2;exact⟨HE.out _ uZ,by simp[intOf];omega⟩
   go_wp2_with (at_builtin;refine wpList_append_own _ rfl _ _ 42 rfl (w.1.size+1) 3 i0 (.int .i64 0) 1 8 Tryz.underlying42 hi hz0 hz1 hz2 rfl (by decide) (.slice Ao us.length co) us.length _ rfl (HO.out.alloc _) _ 1 1 [.int .i64 (k:Int)] rfl rfl ?_ ?_ (by unfold maxLen;omega) (by omega) ?_ ?_)
   all_goals first|rfl|(have:=HU.out.size;simp at this |-;omega)|skip
   intro v' w4 hown' hgrow _;have a6:=(HU.out.alloc _).grown hgrow (λg hg=>by have:=aG HO.out g hg;simpa using this)
   have HE:=aa (show Ev w (w.alloc (.cells #[UM US fmt,UO (UX ⟨b,off,UW⟩) n c] 25)) ps n v' (UM US ((k:Int)+1)) w4 from
    ⟨k+1,by omega,congrArg (UM US) (by omega),by rw[Qq.out,if_pos trivial,dj,List.length_append];exact hown',a6⟩)
   obtain⟨A',c',rfl,_⟩:=aL hown';clear hown' hgrow a6;go_wp2;exact⟨HE.out,by simp[intOf];omega⟩
  obtain rfl:k=n:=by omega
  have z1:¬(k:Int)<(k:Int):=by omega
  have hun:j2 ps k=jn ps:=by unfold jn j2;rw[hN]
  have HE:=aa (show Eu ps w (.returned (UO Ao (jn ps).length co)) wr from⟨Ao,co,rfl,by rw[<-hun];exact uF hown rfl,by rw[<-hun];exact hco1,by unfold maxLen at hco2;omega,iu.out⟩);have hll:(j2 ps k).length=(jn ps).length:=by rw[hun]
  rw[hll];clear hlt hu hb1 hown;go_wp2;go_ret;exact HE.out
end
