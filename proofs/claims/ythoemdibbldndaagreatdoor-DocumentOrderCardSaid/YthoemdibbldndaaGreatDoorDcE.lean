/- The reference's Parse, Bytes, Same and Validate of documents, over its splitting. -/
import Derived.Test.YthoemdibbldndaaGreatDoorDcB
set_option linter.all false
set_option maxHeartbeats 0
set_option maxRecDepth 20000
open Go.Value renaming int->Yp,slice->Yr,bool->Ys,tuple->Yu
open Go.IntKind renaming i64->Yv
open Go.Ending renaming returned->Yx
open Option renaming none->Yy,some->Yz
open Go renaming World->YA
namespace Go.Proofs.YthoemdibbldndaaGreatDoor
open Go.RowKit
section
variable {fmt:Int} {S:List UInt8->List St.Pt × Nat × Int}
structure CW (fmt:Int) (S:List UInt8->List St.Pt × Nat × Int):Prop where
 kn:fmt=1\/fmt=2\/fmt=3
 uN:∀(d:ByteArray) (w:YA),d.size<=1000000000->Calls Tryz.prog 60 #[Yp Yv fmt,.string d] w λe w'=>∃A c,e=Yx (Yu #[Yr A (S d.1.1).1.length c,Yp Yv ((S d.1.1).2.1:Int),Yp Yv (S d.1.1).2.2])/\a8 w' A (S d.1.1).1/\(S d.1.1).1.length<=c/\c<=9223372036854775807/\ac w w'
theorem vF(fmt:Int)(w:YA)(h:fmt=1\/fmt=2\/fmt=3):Calls Tryz.prog 59 #[Yp Yv fmt] w λe w'=>e=Yx (Ys true)/\w=w':=by
 rcases h with rfl|rfl|rfl
 all_goals
  go_enter Tryz.func59,Tryz.ntmps59;go_wp2;go_ret;exact⟨rfl,rfl⟩
theorem Fv(fmt:Int)(w:YA)(h:¬(fmt=1\/fmt=2\/fmt=3)):Calls Tryz.prog 59 #[Yp Yv fmt] w λe w'=>e=Yx (Ys false)/\w=w':=by
 have z1:(fmt==1)=false:=by simp;omega
 have z2:(fmt==2)=false:=by simp;omega
 have z3:(fmt==3)=false:=by simp;omega
 go_enter Tryz.func59,Tryz.ntmps59;go_wp2;go_ret;exact⟨rfl,rfl⟩
theorem Hu(fmt:Int)(w:YA)(h:¬(fmt=1\/fmt=2\/fmt=3)):Calls Tryz.prog 45 #[Yp Yv fmt] w λe w'=>e=Yx (Ys false)/\w=w':=by
 have z1:(fmt==1)=false:=by simp;omega
 have z2:(fmt==2)=false:=by simp;omega
 have z3:(fmt==3)=false:=by simp;omega
 go_enter Tryz.func45,Tryz.ntmps45;go_wp2;go_ret;exact⟨rfl,rfl⟩
theorem Lj(d:ByteArray)(w:YA)(hF:CW fmt S)(hd:d.size<=1000000000):Calls Tryz.prog 21 #[Yp Yv fmt,.string d] w (vQ fmt (S d.1.1) w):=by
 have HK:=aa (λW=>vF fmt W hF.kn);have HS:=aa (λW=>hF.uN d W hd);generalize S d.1.1=R at HS |-;obtain⟨ps,pl,er⟩:=R;clear hF;go_enter Tryz.func21,Tryz.ntmps21;go_wp2_with fail;refine(HK.out _).mono ?_;rintro e w2 ⟨rfl,rfl⟩;go_wp2_with fail;refine(HS.out _).mono ?_;rintro e w3 ⟨A,c,rfl,hP,h1,h2,hu⟩;have hu':ac w w3:=ac.trans (uZ) hu;have hb3:=(hu.below.block w.1.size (by simp)).trans (heap_alloc_new w (.cells #[Yp Yv 0,Yr Yy 0 0] 25));have d0:w3.cell? ⟨w.1.size,0,Yy⟩=Yz (Yp Yv 0):=aj hb3 0;have d1:w3.cell? ⟨w.1.size,1,Yy⟩=Yz (Yr Yy 0 0):=aj hb3 1;have f0:w3.frozen? ⟨w.1.size,0,Yy⟩=false:=bu hb3 0;have f1:w3.frozen? ⟨w.1.size,1,Yy⟩=false:=bu hb3 1;haveI:af w.1.size w3:=af.of (ae hb3);have lz:∀u v,ac w ((w3.setCell ⟨w.1.size,0,Yy⟩ u).setCell ⟨w.1.size,1,Yy⟩ v):=λu v=>ac.mk ((hu'.below.setCell (p:=⟨w.1.size,0,Yy⟩) (Nat.le_refl _) u).setCell (p:=⟨w.1.size,1,Yy⟩) (Nat.le_refl _) v)
 have CN:=aa lz;have vq:=aa (λu v=>fG hP hb3 u v);simp only at h1 |-;clear hu hu' hb3 lz hP
 by_cases he:er=0
 ·subst he;go_wp2;refine bodyPost_ret (v:=Yu #[.agg #[Yp Yv fmt,Yr A ps.length c],Yp Yv 0,Yp Yv 0]) ?_ rfl ?_
  ·simp[results,Tryz.results21,go_sem,d0,d1]
  exact⟨CN.out _ _,.inl ⟨rfl,A,c,rfl,vq.out _ _,h1,h2⟩⟩
 have z1:(er==0)=false:=by simpa using he
 have z2:(er != 0)=true:=by simpa using he
 have HE:=aa he;clear he;go_wp2;refine bodyPost_ret (v:=Yu #[.agg #[Yp Yv 0,Yr Yy 0 0],Yp Yv pl,Yp Yv er]) ?_ rfl ?_
 ·simp[results,Tryz.results21,go_sem,d0,d1]
 exact⟨CN.out _ _,.inr ⟨HE.out,rfl⟩⟩
theorem yy(fa fb:Int)(A B:Option Addr)(n m c d:Nat)(f g:List St.Pt)(w:YA)(hn:f.length=n)(hm:g.length=m)(hc:n<=c)(hd:m<=d)(dq:c<=9223372036854775807)(fq:d<=9223372036854775807)(hA:a8 w A f)(hB:a8 w B g) :
  Calls Tryz.prog 22 #[.agg #[Yp Yv fa,Yr A n c],.agg #[Yp Yv fb,Yr B m d]] w λe w'=>e=Yx (Ys (decide (fa=fb/\f=g)))/\ac w w':=by
 have hcall:=aa (λW (hW:ac w W)=>Cb A B n m c d f g W hn hm hc hd dq fq (hA.ai hW) (hB.ai hW));clear hA hB hn hm hc hd dq fq
 by_cases he:fa=fb
 ·subst he;have z:(fa==fa)=true:=beq_self_eq_true _;go_enter Tryz.func22,Tryz.ntmps22;go_wp2_with fail;refine(hcall.out _ uZ).mono ?_;rintro e w2 ⟨rfl,X,rfl⟩;obtain⟨b,hb⟩:∃b,b=decide (f=g):=⟨_,rfl⟩;have hb2:decide (fa=fa/\f=g)=b:=by rw[hb];simp
  have HB:=aa hb2;rw[<-hb];clear hb hb2;go_wp2;go_ret;rw[HB.out];exact⟨rfl,uZ⟩
 have z:(fa==fb)=false:=by simpa using he
 have hb2:decide (fa=fb/\f=g)=false:=by simp[he]
 have HB:=aa hb2;clear he hb2;go_enter Tryz.func22,Tryz.ntmps22;go_wp2;go_ret;rw[HB.out];exact⟨rfl,uZ⟩
end
section
variable {fmt:Int} {S:List UInt8->List St.Pt × Nat × Int}
end
section
def jH(ps:List St.Pt):List Nat:=(List.range ps.length).filter λi=>(ps[i]?.map (·.1)).getD false
def kC(ps:List St.Pt)(k:Nat):List Nat:=(List.range k).filter λi=>(ps[i]?.map (·.1)).getD false
theorem Jo(ps:List St.Pt)(k:Nat)(h:k<ps.length):kC ps (k+1)=kC ps k++(if ps[k].1=true then[k]else[]):=by
 unfold kC;rw[List.range_succ,List.filter_append];congr 1;simp only[List.filter_cons,List.filter_nil,List.getElem?_eq_getElem h,Option.map_some,Option.getD_some]
theorem B0(ps:List St.Pt)(k:Nat):(kC ps k).length<=k:=by
 unfold kC;exact Nat.le_trans (List.length_filter_le _ _) (by simp)
def Hh(ps:List St.Pt)(w:YA)(e:Ending)(w':YA):Prop:=∃A c,e=Yx (Yr A (jH ps).length c)/\iP w' A (jH ps)/\(jH ps).length<=c/\c<=9223372036854775807/\ac w w'
def Hi(w W1:YA)(ps:List St.Pt)(n:Nat)(s3 s:Value)(wr:YA):Prop:=∃k:Nat,k<=n/\s=Yp Yv k/\wr.ownsRow (w.1.size+1) 3 1 s3 (kC ps k).length (fc (kC ps k))/\ac W1 wr
theorem I5(fmt:Int)(A:Option Addr)(n c:Nat)(ps:List St.Pt)(w:YA)(hn:ps.length=n)(h:a8 w A ps)(hl:n<=4000000000000) :
  Calls Tryz.prog 38 #[.agg #[Yp Yv fmt,Yr A n c]] w (Hh ps w):=by
 have H:=aa h;have HN:=aa hn;obtain⟨i0,hi,hz0,hz1,hz2⟩:=info_parts gQ;have hb0:=heap_alloc_new w (.cells #[Yp Yv fmt,Yr A n c] 25);clear h hn;go_enter Tryz.func38,Tryz.ntmps38;go_wp2_with fail;go_loopw [3,8] (λs3 s wr=>Hi w (w.alloc (.cells #[Yp Yv fmt,Yr A n c] 25)) ps n s3 s wr) (λ_ s _=>n+1-(intOf s).toNat)
 case atStart=>exact⟨0,by omega,rfl,World.ownsRow_nil _ _ _ _,ac.refl _⟩
 case round=>
  obtain⟨k,hk,rfl,hown,hu⟩:=hrel;have hN:=HN.out;have hb1:=(hu.below.block w.1.size (by simp)).trans hb0;have d0:wr.cell? ⟨w.1.size,0,Yy⟩=Yz (Yp Yv fmt):=aj hb1 0;have d1:wr.cell? ⟨w.1.size,1,Yy⟩=Yz (Yr A n c):=aj hb1 1;haveI:af w.1.size wr:=af.of (ae hb1);have HU:=aa hu;have HO:=aa hown;have mK:=aa (ac.trans (uZ:ac w (w.alloc (.cells #[Yp Yv fmt,Yr A n c] 25))) hu);have hsz:=mK.out.size;have mM:=B0 ps k;obtain⟨Ao,co,rfl,hco1,hco2⟩:=aI hown
  by_cases hlt:k<n
  ·have aO:k<ps.length:=by omega
   have DN:=Jo ps k aO;obtain⟨b,off,rfl,hb,hc⟩:=(H.out.ai mK.out) (by omega);obtain⟨c0,c1,c2⟩:=hc k aO;generalize ps[k]=x at c0 c1 c2 DN;obtain⟨xu,xk,xr⟩:=x;simp only at c0 c1 c2 DN;haveI:af b wr:=af.of hb;have z1:(k:Int)<(n:Int):=by omega
   have z0:(0:Int)<=(k:Int):=by omega
   have TQ:=aa DN;generalize Uo:kC ps k=us at *;have XB:=aa Uo;clear hc aO hu hb1 hown DN Uo;cases xu
   ·have HE:=aa (λ(wz:YA) (hz:ac wr wz)=>(show Hi w (w.alloc (.cells #[Yp Yv fmt,Yr (Yz ⟨b,off,Yy⟩) n c] 25)) ps n (Yr Ao us.length co) (Yp Yv ((k:Int)+1)) wz from
     ⟨k+1,by omega,congrArg (Yp Yv) (by omega),by rw[TQ.out,if_neg (by simp),List.append_nil];exact aH hz HO.out,HU.out.trans hz⟩))
    go_wp2;exact⟨HE.out _ uZ,by simp[intOf];omega⟩
   go_wp2_with (at_builtin;refine wpList_append_own _ rfl _ _ 42 rfl (w.1.size+1) 3 i0 (.int .i64 0) 1 8 Tryz.underlying42 hi hz0 hz1 hz2 rfl (by decide) (.slice Ao us.length co) us.length _ rfl (HO.out.alloc _) _ 1 1 [.int .i64 (k:Int)] rfl rfl ?_ ?_ (by unfold maxLen;omega) (by omega) ?_ ?_)
   all_goals first|rfl|(have:=HU.out.size;simp at this |-;omega)|skip
   intro v' w4 hown' hgrow _;have bj:=(HU.out.alloc _).grown hgrow (λg hg=>by have:=aD HO.out g hg;simpa using this)
   have HE:=aa (show Hi w (w.alloc (.cells #[Yp Yv fmt,Yr (Yz ⟨b,off,Yy⟩) n c] 25)) ps n v' (Yp Yv ((k:Int)+1)) w4 from
    ⟨k+1,by omega,congrArg (Yp Yv) (by omega),by rw[TQ.out,if_pos trivial,dF,List.length_append];exact hown',bj⟩)
   obtain⟨A',c',rfl,_⟩:=aI hown';clear hown' hgrow bj;go_wp2;exact⟨HE.out,by simp[intOf];omega⟩
  obtain rfl:k=n:=by omega
  have z1:¬(k:Int)<(k:Int):=by omega
  have hun:kC ps k=jH ps:=by unfold jH kC;rw[hN]
  have HE:=aa (show Hh ps w (Yx (Yr Ao (jH ps).length co)) wr from⟨Ao,co,rfl,by rw[<-hun];exact wG hown rfl,by rw[<-hun];exact hco1,by unfold maxLen at hco2;omega,mK.out⟩);have hll:(kC ps k).length=(jH ps).length:=by rw[hun]
  rw[hll];clear hlt hu hb1 hown;go_wp2;go_ret;exact HE.out
end
