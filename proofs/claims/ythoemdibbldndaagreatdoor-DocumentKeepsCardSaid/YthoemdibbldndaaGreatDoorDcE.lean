/- The reference's Parse, Bytes, Same and Validate of documents, over its splitting. -/
import Derived.Test.YthoemdibbldndaaGreatDoorDcB
set_option linter.all false
set_option maxHeartbeats 0
set_option maxRecDepth 20000
open Go.Value renaming int->Yh,slice->Yj,tuple->Ym
open Go.IntKind renaming i64->Yn
open Go.Ending renaming returned->Yp
open Option renaming none->Yq,some->Yr
open Go renaming World->Ys
namespace Go.Proofs.YthoemdibbldndaaGreatDoor
open Go.RowKit
section
variable {fmt:Int} {S:List UInt8->List St.Pt × Nat × Int}
structure Ch (fmt:Int) (S:List UInt8->List St.Pt × Nat × Int):Prop where
 kn:fmt=1\/fmt=2\/fmt=3
 ug:∀(d:ByteArray) (w:Ys),d.size<=1000000000->Calls Tryz.prog 60 #[Yh Yn fmt,.string d] w λe w'=>∃A c,e=Yp (Ym #[Yj A (S d.1.1).1.length c,Yh Yn ((S d.1.1).2.1:Int),Yh Yn (S d.1.1).2.2])/\bk w' A (S d.1.1).1/\(S d.1.1).1.length<=c/\c<=9223372036854775807/\ac w w'
theorem zuv(fmt:Int)(w:Ys)(h:fmt=1\/fmt=2\/fmt=3):Calls Tryz.prog 59 #[Yh Yn fmt] w λe w'=>e=Yp (.bool true)/\w=w':=by
 rcases h with rfl|rfl|rfl
 all_goals
  go_enter Tryz.func59,Tryz.ntmps59;go_wp2;go_ret;exact⟨rfl,rfl⟩
theorem ED(fmt:Int)(w:Ys)(h:¬(fmt=1\/fmt=2\/fmt=3)):Calls Tryz.prog 59 #[Yh Yn fmt] w λe w'=>e=Yp (.bool false)/\w=w':=by
 have z1:(fmt==1)=false:=by simp;omega
 have z2:(fmt==2)=false:=by simp;omega
 have z3:(fmt==3)=false:=by simp;omega
 go_enter Tryz.func59,Tryz.ntmps59;go_wp2;go_ret;exact⟨rfl,rfl⟩
theorem GH(fmt:Int)(w:Ys)(h:¬(fmt=1\/fmt=2\/fmt=3)):Calls Tryz.prog 45 #[Yh Yn fmt] w λe w'=>e=Yp (.bool false)/\w=w':=by
 have z1:(fmt==1)=false:=by simp;omega
 have z2:(fmt==2)=false:=by simp;omega
 have z3:(fmt==3)=false:=by simp;omega
 go_enter Tryz.func45,Tryz.ntmps45;go_wp2;go_ret;exact⟨rfl,rfl⟩
theorem Kx(d:ByteArray)(w:Ys)(hF:Ch fmt S)(hd:d.size<=1000000000):Calls Tryz.prog 21 #[Yh Yn fmt,.string d] w (vh fmt (S d.1.1) w):=by
 have HK:=aa (λW=>zuv fmt W hF.kn);have HS:=aa (λW=>hF.ug d W hd);generalize S d.1.1=R at HS |-;obtain⟨ps,pl,er⟩:=R;clear hF;go_enter Tryz.func21,Tryz.ntmps21;go_wp2_with fail;refine(HK.out _).mono ?_;rintro e w2 ⟨rfl,rfl⟩;go_wp2_with fail;refine(HS.out _).mono ?_;rintro e w3 ⟨A,c,rfl,hP,h1,h2,hu⟩;have hu':ac w w3:=ac.trans (uZ) hu;have hb3:=(hu.below.block w.1.size (by simp)).trans (heap_alloc_new w (.cells #[Yh Yn 0,Yj Yq 0 0] 25));have d0:w3.cell? ⟨w.1.size,0,Yq⟩=Yr (Yh Yn 0):=aj hb3 0;have d1:w3.cell? ⟨w.1.size,1,Yq⟩=Yr (Yj Yq 0 0):=aj hb3 1;have f0:w3.frozen? ⟨w.1.size,0,Yq⟩=false:=bz hb3 0;have f1:w3.frozen? ⟨w.1.size,1,Yq⟩=false:=bz hb3 1;haveI:af w.1.size w3:=af.of (ae hb3);have lm:∀u v,ac w ((w3.setCell ⟨w.1.size,0,Yq⟩ u).setCell ⟨w.1.size,1,Yq⟩ v):=λu v=>ac.mk ((hu'.below.setCell (p:=⟨w.1.size,0,Yq⟩) (Nat.le_refl _) u).setCell (p:=⟨w.1.size,1,Yq⟩) (Nat.le_refl _) v)
 have B9:=aa lm;have EX:=aa (λu v=>gH hP hb3 u v);simp only at h1 |-;clear hu hu' hb3 lm hP
 by_cases he:er=0
 ·subst he;go_wp2;refine bodyPost_ret (v:=Ym #[.agg #[Yh Yn fmt,Yj A ps.length c],Yh Yn 0,Yh Yn 0]) ?_ rfl ?_
  ·simp[results,Tryz.results21,go_sem,d0,d1]
  exact⟨B9.out _ _,.inl ⟨rfl,A,c,rfl,EX.out _ _,h1,h2⟩⟩
 have z1:(er==0)=false:=by simpa using he
 have z2:(er != 0)=true:=by simpa using he
 have HE:=aa he;clear he;go_wp2;refine bodyPost_ret (v:=Ym #[.agg #[Yh Yn 0,Yj Yq 0 0],Yh Yn pl,Yh Yn er]) ?_ rfl ?_
 ·simp[results,Tryz.results21,go_sem,d0,d1]
 exact⟨B9.out _ _,.inr ⟨HE.out,rfl⟩⟩
end
section
variable {fmt:Int} {S:List UInt8->List St.Pt × Nat × Int}
end
section
def jC(ps:List St.Pt):List Nat:=(List.range ps.length).filter λi=>(ps[i]?.map (·.1)).getD false
def kA(ps:List St.Pt)(k:Nat):List Nat:=(List.range k).filter λi=>(ps[i]?.map (·.1)).getD false
theorem II(ps:List St.Pt)(k:Nat)(h:k<ps.length):kA ps (k+1)=kA ps k++(if ps[k].1=true then[k]else[]):=by
 unfold kA;rw[List.range_succ,List.filter_append];congr 1;simp only[List.filter_cons,List.filter_nil,List.getElem?_eq_getElem h,Option.map_some,Option.getD_some]
theorem Bn(ps:List St.Pt)(k:Nat):(kA ps k).length<=k:=by
 unfold kA;exact Nat.le_trans (List.length_filter_le _ _) (by simp)
def Gt(ps:List St.Pt)(w:Ys)(e:Ending)(w':Ys):Prop:=∃A c,e=Yp (Yj A (jC ps).length c)/\iJ w' A (jC ps)/\(jC ps).length<=c/\c<=9223372036854775807/\ac w w'
def Gu(w W1:Ys)(ps:List St.Pt)(n:Nat)(s3 s:Value)(wr:Ys):Prop:=∃k:Nat,k<=n/\s=Yh Yn k/\wr.ownsRow (w.1.size+1) 3 1 s3 (kA ps k).length (eY (kA ps k))/\ac W1 wr
theorem Ik(fmt:Int)(A:Option Addr)(n c:Nat)(ps:List St.Pt)(w:Ys)(hn:ps.length=n)(h:bk w A ps)(hl:n<=4000000000000) :
  Calls Tryz.prog 38 #[.agg #[Yh Yn fmt,Yj A n c]] w (Gt ps w):=by
 have H:=aa h;have HN:=aa hn;obtain⟨i0,hi,hz0,hz1,hz2⟩:=info_parts fO;have hb0:=heap_alloc_new w (.cells #[Yh Yn fmt,Yj A n c] 25);clear h hn;go_enter Tryz.func38,Tryz.ntmps38;go_wp2_with fail;go_loopw [3,8] (λs3 s wr=>Gu w (w.alloc (.cells #[Yh Yn fmt,Yj A n c] 25)) ps n s3 s wr) (λ_ s _=>n+1-(intOf s).toNat)
 case atStart=>exact⟨0,by omega,rfl,World.ownsRow_nil _ _ _ _,ac.refl _⟩
 case round=>
  obtain⟨k,hk,rfl,hown,hu⟩:=hrel;have hN:=HN.out;have hb1:=(hu.below.block w.1.size (by simp)).trans hb0;have d0:wr.cell? ⟨w.1.size,0,Yq⟩=Yr (Yh Yn fmt):=aj hb1 0;have d1:wr.cell? ⟨w.1.size,1,Yq⟩=Yr (Yj A n c):=aj hb1 1;haveI:af w.1.size wr:=af.of (ae hb1);have HU:=aa hu;have HO:=aa hown;have sC:=aa (ac.trans (uZ:ac w (w.alloc (.cells #[Yh Yn fmt,Yj A n c] 25))) hu);have hsz:=sC.out.size;have mN:=Bn ps k;obtain⟨Ao,co,rfl,hco1,hco2⟩:=aJ hown
  by_cases hlt:k<n
  ·have aI:k<ps.length:=by omega
   have C3:=II ps k aI;obtain⟨b,off,rfl,hb,hc⟩:=(H.out.ai sC.out) (by omega);obtain⟨c0,c1,c2⟩:=hc k aI;generalize ps[k]=x at c0 c1 c2 C3;obtain⟨xu,xk,xr⟩:=x;simp only at c0 c1 c2 C3;haveI:af b wr:=af.of hb;have z1:(k:Int)<(n:Int):=by omega
   have z0:(0:Int)<=(k:Int):=by omega
   have Tx:=aa C3;generalize Ua:kA ps k=us at *;have Xw:=aa Ua;clear hc aI hu hb1 hown C3 Ua;cases xu
   ·have HE:=aa (λ(wz:Ys) (hz:ac wr wz)=>(show Gu w (w.alloc (.cells #[Yh Yn fmt,Yj (Yr ⟨b,off,Yq⟩) n c] 25)) ps n (Yj Ao us.length co) (Yh Yn ((k:Int)+1)) wz from
     ⟨k+1,by omega,congrArg (Yh Yn) (by omega),by rw[Tx.out,if_neg (by simp),List.append_nil];exact aF hz HO.out,HU.out.trans hz⟩))
    go_wp2;exact⟨HE.out _ uZ,by simp[intOf];omega⟩
   go_wp2_with (at_builtin;refine wpList_append_own _ rfl _ _ 42 rfl (w.1.size+1) 3 i0 (.int .i64 0) 1 8 Tryz.underlying42 hi hz0 hz1 hz2 rfl (by decide) (.slice Ao us.length co) us.length _ rfl (HO.out.alloc _) _ 1 1 [.int .i64 (k:Int)] rfl rfl ?_ ?_ (by unfold maxLen;omega) (by omega) ?_ ?_)
   all_goals first|rfl|(have:=HU.out.size;simp at this |-;omega)|skip
   intro v' w4 hown' hgrow _;have bf:=(HU.out.alloc _).grown hgrow (λg hg=>by have:=aB HO.out g hg;simpa using this)
   have HE:=aa (show Gu w (w.alloc (.cells #[Yh Yn fmt,Yj (Yr ⟨b,off,Yq⟩) n c] 25)) ps n v' (Yh Yn ((k:Int)+1)) w4 from
    ⟨k+1,by omega,congrArg (Yh Yn) (by omega),by rw[Tx.out,if_pos trivial,dB,List.length_append];exact hown',bf⟩)
   obtain⟨A',c',rfl,_⟩:=aJ hown';clear hown' hgrow bf;go_wp2;exact⟨HE.out,by simp[intOf];omega⟩
  obtain rfl:k=n:=by omega
  have z1:¬(k:Int)<(k:Int):=by omega
  have hun:kA ps k=jC ps:=by unfold jC kA;rw[hN]
  have HE:=aa (show Gt ps w (Yp (Yj Ao (jC ps).length co)) wr from⟨Ao,co,rfl,by rw[<-hun];exact vN hown rfl,by rw[<-hun];exact hco1,by unfold maxLen at hco2;omega,sC.out⟩);have hll:(kA ps k).length=(jC ps).length:=by rw[hun]
  rw[hll];clear hlt hu hb1 hown;go_wp2;go_ret;exact HE.out
end
