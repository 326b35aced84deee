/- The reference's Parse, Bytes, Same and Validate of documents, over its splitting. -/
import Derived.Test.YthoemdibbldndaaGreatDoorDcB
set_option linter.all false
set_option maxHeartbeats 0
set_option maxRecDepth 20000
open Go.Value renaming int->VD,string->VE,slice->VF,tuple->VI
open Go.IntKind renaming i64->VJ
open Go.Obj renaming cells->VK
open Go.Ending renaming returned->VL
open Option renaming none->VM,some->VN
open Go renaming World->VO
namespace Go.Proofs.YthoemdibbldndaaGreatDoor
open Go.RowKit
section
variable {fmt:Int} {S:List UInt8->List St.Pt × Nat × Int}
structure wE (fmt:Int) (S:List UInt8->List St.Pt × Nat × Int):Prop where
 kn:fmt=1\/fmt=2\/fmt=3
 spl:∀(d:ByteArray) (w:VO),d.size<=1000000000->Calls Tryz.prog 60 #[VD VJ fmt,VE d] w λe w'=>∃A c,e=VL (VI #[VF A (S d.1.1).1.length c,VD VJ ((S d.1.1).2.1:Int),VD VJ (S d.1.1).2.2])/\aY w' A (S d.1.1).1/\(S d.1.1).1.length<=c/\c<=9223372036854775807/\ac w w'
theorem py(fmt:Int)(w:VO)(h:fmt=1\/fmt=2\/fmt=3):Calls Tryz.prog 59 #[VD VJ fmt] w λe w'=>e=VL (.bool true)/\w=w':=by
 rcases h with rfl|rfl|rfl
 all_goals
  go_enter Tryz.func59,Tryz.ntmps59;go_wp2;go_ret;exact⟨rfl,rfl⟩
theorem Cy(fmt:Int)(w:VO)(h:¬(fmt=1\/fmt=2\/fmt=3)):Calls Tryz.prog 59 #[VD VJ fmt] w λe w'=>e=VL (.bool false)/\w=w':=by
 have z1:(fmt==1)=false:=by simp;omega
 have z2:(fmt==2)=false:=by simp;omega
 have z3:(fmt==3)=false:=by simp;omega
 go_enter Tryz.func59,Tryz.ntmps59;go_wp2;go_ret;exact⟨rfl,rfl⟩
theorem sJ(d:ByteArray)(w:VO)(hF:wE fmt S)(hd:d.size<=1000000000):Calls Tryz.prog 21 #[VD VJ fmt,VE d] w (ud fmt (S d.1.1) w):=by
 have HK:=aa (λW=>py fmt W hF.kn);have HS:=aa (λW=>hF.spl d W hd);generalize S d.1.1=R at HS |-;obtain⟨ps,pl,er⟩:=R;clear hF;go_enter Tryz.func21,Tryz.ntmps21;go_wp2_with fail;refine(HK.out _).mono ?_;rintro e w2 ⟨rfl,rfl⟩;go_wp2_with fail;refine(HS.out _).mono ?_;rintro e w3 ⟨A,c,rfl,hP,h1,h2,hu⟩;have hu':ac w w3:=ac.trans (uZ) hu;have hb3:=(hu.below.block w.1.size (by simp)).trans (heap_alloc_new w (VK #[VD VJ 0,VF VM 0 0] 25));have d0:w3.cell? ⟨w.1.size,0,VM⟩=VN (VD VJ 0):=ai hb3 0;have d1:w3.cell? ⟨w.1.size,1,VM⟩=VN (VF VM 0 0):=ai hb3 1;have f0:w3.frozen? ⟨w.1.size,0,VM⟩=false:=bg hb3 0;have f1:w3.frozen? ⟨w.1.size,1,VM⟩=false:=bg hb3 1;haveI:af w.1.size w3:=af.of (ae hb3);have kA:∀u v,ac w ((w3.setCell ⟨w.1.size,0,VM⟩ u).setCell ⟨w.1.size,1,VM⟩ v):=λu v=>ac.mk ((hu'.below.setCell (p:=⟨w.1.size,0,VM⟩) (Nat.le_refl _) u).setCell (p:=⟨w.1.size,1,VM⟩) (Nat.le_refl _) v)
 have zO:=aa kA;have M6:=aa (λu v=>iP hP hb3 u v);simp only at h1 |-;clear hu hu' hb3 kA hP
 by_cases he:er=0
 ·subst he;go_wp2;refine bodyPost_ret (v:=VI #[.agg #[VD VJ fmt,VF A ps.length c],VD VJ 0,VD VJ 0]) ?_ rfl ?_
  ·simp[results,Tryz.results21,go_sem,d0,d1]
  exact⟨zO.out _ _,.inl ⟨rfl,A,c,rfl,M6.out _ _,h1,h2⟩⟩
 have z1:(er==0)=false:=by simpa using he
 have z2:(er != 0)=true:=by simpa using he
 have HE:=aa he;clear he;go_wp2;refine bodyPost_ret (v:=VI #[.agg #[VD VJ 0,VF VM 0 0],VD VJ pl,VD VJ er]) ?_ rfl ?_
 ·simp[results,Tryz.results21,go_sem,d0,d1]
 exact⟨zO.out _ _,.inr ⟨HE.out,rfl⟩⟩
def F0(w:VO)(B:Nat)(ps:List St.Pt)(n:Nat)(s3 s8:Value)(wr:VO):Prop:=
 ∃(k:Nat) (b:ByteArray),k<=n/\s8=VD VJ k/\s3=VE b/\b.1.1=St.bp (ps.take k)/\ac w wr
theorem vW(fmt:Int)(A:Option Addr)(n c:Nat)(ps:List St.Pt)(w:VO)(hn:ps.length=n)(h:aY w A ps)(hl:n<=9223372036854775807)(hr:(St.bp ps).length<=1000000000) :
  Calls Tryz.prog 19 #[.agg #[VD VJ fmt,VF A n c]] w λe w'=>e=VL (VE ⟨(St.bp ps).toArray⟩)/\ac w w':=by
 have H:=aa h;have HN:=aa hn;have HR:=aa hr;clear h hn hr;go_enter Tryz.func19,Tryz.ntmps19;go_wp2_with fail;go_loopw [3,4,8] (λs3 _ s8 wr=>F0 w 0 ps n s3 s8 wr/\wr=w.alloc (VK #[VD VJ fmt,VF A n c] 25)) (λ_ _ s8 _=>n+1-(intOf s8).toNat)
 case atStart=>exact⟨⟨0,⟨#[]⟩,by omega,rfl,rfl,by simp[St.bp],uZ⟩,rfl⟩
 case round=>
  obtain⟨⟨k,b,hk,rfl,rfl,hb,hu⟩,rfl⟩:=hrel;have hN:=HN.out;have hR:=HR.out;have HB:=aa hb
  by_cases hlt:k<n
  ·have aG:k<ps.length:=by omega
   obtain⟨bb,off,rfl,hbb,hc⟩:=H.out (by omega);obtain⟨c0,c1,c2⟩:=hc k aG;have hrt:=uN ps k aG;have h1:=pw ps (k+1);have hbs:b.size=(St.bp (ps.take k)).length:=by rw[<-St.aD,hb]
   generalize ps[k]=x at c0 c1 c2 hrt;obtain⟨xu,xk,xr⟩:=x;simp only at c0 c1 c2 hrt;rw[hrt,List.length_append]at h1;have hxs:(⟨xr.toArray⟩:ByteArray).size=xr.length:=by show xr.toArray.size=_;simp
   have y1:¬9223372036854775807<b.size+(⟨xr.toArray⟩:ByteArray).size:=by rw[hxs];omega
   haveI:af bb w:=af.of hbb;have HE:=aa (show F0 w 0 ps n (VE (b++⟨xr.toArray⟩)) (VD VJ ((k:Int)+1)) (w.alloc (VK #[VD VJ fmt,VF (VN ⟨bb,off,VM⟩) n c] 25))from⟨k+1,_,by omega,congrArg (VD VJ) (by omega),rfl,by rw[hrt,<-hb];simp,uZ⟩);clear hc aG hrt hb hu h1 hbs hxs;go_wp2;exact⟨⟨HE.out,by first|trivial|rfl⟩,by simp[intOf];omega⟩
  obtain rfl:k=n:=by omega
  have hft:ps.take k=ps:=List.take_of_length_le (by omega);rw[hft]at HB;have TA:b=⟨(St.bp ps).toArray⟩:=by rw[<-HB.out,aX]
  clear hlt hft hb;go_wp2;go_ret;exact⟨by rw[<-TA];rfl,hu⟩
theorem nr(fa fb:Int)(A B:Option Addr)(n m c d:Nat)(f g:List St.Pt)(w:VO)(hn:f.length=n)(hm:g.length=m)(hc:n<=c)(hd:m<=d)(cN:c<=9223372036854775807)(fe:d<=9223372036854775807)(hA:aY w A f)(hB:aY w B g) :
  Calls Tryz.prog 22 #[.agg #[VD VJ fa,VF A n c],.agg #[VD VJ fb,VF B m d]] w λe w'=>e=VL (.bool (decide (fa=fb/\f=g)))/\ac w w':=by
 have hcall:=aa (λW (hW:ac w W)=>yY A B n m c d f g W hn hm hc hd cN fe (hA.ah hW) (hB.ah hW));clear hA hB hn hm hc hd cN fe
 by_cases he:fa=fb
 ·subst he;have z:(fa==fa)=true:=beq_self_eq_true _;go_enter Tryz.func22,Tryz.ntmps22;go_wp2_with fail;refine(hcall.out _ uZ).mono ?_;rintro e w2 ⟨rfl,X,rfl⟩;obtain⟨b,hb⟩:∃b,b=decide (f=g):=⟨_,rfl⟩;have hb2:decide (fa=fa/\f=g)=b:=by rw[hb];simp
  have HB:=aa hb2;rw[<-hb];clear hb hb2;go_wp2;go_ret;rw[HB.out];exact⟨rfl,uZ⟩
 have z:(fa==fb)=false:=by simpa using he
 have hb2:decide (fa=fb/\f=g)=false:=by simp[he]
 have HB:=aa hb2;clear he hb2;go_enter Tryz.func22,Tryz.ntmps22;go_wp2;go_ret;rw[HB.out];exact⟨rfl,uZ⟩
end
section
variable {fmt:Int} {S:List UInt8->List St.Pt × Nat × Int}
theorem Hv(A:Option Addr)(n c:Nat)(ps:List St.Pt)(w:VO)(hF:wE fmt S)(hn:ps.length=n)(hnc:n<=c)(cN:c<=9223372036854775807)(h:aY w A ps)(hl:n<=9223372036854775807)(hr:(St.bp ps).length<=1000000000) :
  Calls Tryz.prog 35 #[.agg #[VD VJ fmt,VF A n c]] w λe w'=>e=VL (VD VJ (St.eZ S ps))/\ac w w':=by
 have HK:=aa (λW=>py fmt W hF.kn);have HB:=aa (λW (hW:ac w W)=>vW fmt A n c ps W hn (h.ah hW) hl hr);have HP:=aa (λW (hW:ac w W)=>sJ ⟨(St.bp ps).toArray⟩ W hF (by show(St.bp ps).toArray.size<=_;simpa using hr));have H:=aa h;have HN:=aa hn;have hv:St.eZ S ps=if(S (St.bp ps)).2.2=0/\(S (St.bp ps)).1=ps then 0 else 11:=rfl
 have qA:(⟨(St.bp ps).toArray⟩:ByteArray).1.1=St.bp ps:=by simp
 rw[qA]at HP;generalize(⟨(St.bp ps).toArray⟩:ByteArray)=dS at HB HP;generalize S (St.bp ps)=R at hv HP;obtain⟨qs,pl,er⟩:=R;simp only at hv;have HV:=aa hv;clear hF h hn hr hv qA
 by_cases he:er=0
 ·subst he;have hpe:Hid (∀(W:VO),ac w W->Calls Tryz.prog 21 #[VD VJ fmt,VE dS] W λe w'=>∃A' c',e=VL (VI #[.agg #[VD VJ fmt,VF A' qs.length c'],VD VJ 0,VD VJ 0])/\aY w' A' qs/\qs.length<=c'/\c'<=9223372036854775807/\ac W w'):=aa λW hW=>(HP.out W hW).mono λe w' ⟨hu,h⟩=>by
   rcases h with⟨_,A',c',h1,h2,h3,h4⟩|⟨h0,_⟩
   ·exact⟨A',c',h1,h2,h3,h4,hu⟩
   exact absurd rfl h0
  clear HP;go_enter Tryz.func35,Tryz.ntmps35;go_wp2_with fail;refine(HK.out _).mono ?_;rintro e w2 ⟨rfl,rfl⟩;go_wp2_with fail
  go_region_law (first
   | (refine dk rfl 19 #[.agg #[VD VJ fmt,VF A n c]] _ (HB.out _ uZ) ?_ ?_;(· go_simp;done);rintro e w5 ⟨rfl,X5,rfl⟩;refine⟨_,rfl,?_⟩)
   | (refine dk rfl 21 #[VD VJ fmt,VE dS] _ (hpe.out _ uZ) ?_ ?_;(· go_simp;done);rintro e w6 ⟨A6,c6,rfl,hP6,h61,Ay,X6,rfl⟩;refine⟨_,rfl,?_⟩))
  all_goals
   go_wp2_with fail;have hcall:=λW (hW:ac w W) (hP:aY W A6 qs)=>nr fmt fmt A6 A qs.length n c6 c qs ps W rfl HN.out h61 hnc Ay cN hP (H.out.ah hW)
   refine(hcall _ uZ ?_).mono ?_
   ·try rw[under_under]at hP6
    first
     | (refine hP6.ah ?_;(repeat (first|exact ac.refl _|assumption|refine ac.under ?_ _|refine ac.alloc ?_ _|refine ac.drew ?_|refine ac.drewN ?_ _));done)
     | (have q:=np (V:=(under (w.alloc (VK #[VD IntKind.i64 fmt,VF A n c] 25)).drew X5)) (i:=0) (a:=VM) (n:=0) (c:=0) hP6 uZ (VD VJ fmt) (VF A6 qs.length c6);simpa[go_sem]using q)
     | (have q:=np (V:=w.alloc (VK #[VD IntKind.i64 fmt,VF A n c] 25)) (i:=0) (a:=VM) (n:=0) (c:=0) hP6 uZ (VD VJ fmt) (VF A6 qs.length c6);simpa[go_sem]using q)
   rintro e w7 ⟨rfl,X7,rfl⟩;obtain⟨b,hb⟩:∃b,b=decide (fmt=fmt/\qs=ps):=⟨_,rfl⟩;have oE:=aa (show b=decide (qs=ps)by rw[hb];simp);rw[<-hb];clear hb hP6;cases b
   ·go_wp2;go_ret;rw[HV.out,if_neg (λhh=>of_decide_eq_false oE.out.symm hh.2)];exact⟨rfl,uZ⟩
   go_wp2;go_ret;rw[HV.out,if_pos ⟨trivial,of_decide_eq_true oE.out.symm⟩];exact⟨rfl,uZ⟩
 have z1:(er==0)=false:=by simpa using he
 have z2:(er != 0)=true:=by simpa using he
 have HE:=aa he
 have hpe:Hid (∀(W:VO),ac w W->Calls Tryz.prog 21 #[VD VJ fmt,VE dS] W λe w'=>e=VL (VI #[.agg #[VD VJ 0,VF VM 0 0],VD VJ (pl:Int),VD VJ er])/\ac W w'):=aa λW hW=>(HP.out W hW).mono λe w' ⟨hu,h⟩=>by
  rcases h with⟨h0,_⟩|⟨_,h1⟩
  ·exact absurd h0 he
  exact⟨h1,hu⟩
 clear HP he;go_enter Tryz.func35,Tryz.ntmps35;go_wp2_with fail;refine(HK.out _).mono ?_;rintro e w2 ⟨rfl,rfl⟩;go_wp2_with fail
 go_region_law (first
  | (refine dk rfl 19 #[.agg #[VD VJ fmt,VF A n c]] _ (HB.out _ uZ) ?_ ?_;(· go_simp;done);rintro e w5 ⟨rfl,X5,rfl⟩;refine⟨_,rfl,?_⟩)
  | (refine dk rfl 21 #[VD VJ fmt,VE dS] _ (hpe.out _ uZ) ?_ ?_;(· go_simp;done);rintro e w6 ⟨rfl,X6,rfl⟩;refine⟨_,rfl,?_⟩))
 all_goals
  go_wp2;go_ret;rw[HV.out,if_neg (λhh=>HE.out hh.1)];exact⟨rfl,uZ⟩
end
section
def jb(ps:List St.Pt):List Nat:=(List.range ps.length).filter λi=>(ps[i]?.map (·.1)).getD false
def jO(ps:List St.Pt)(k:Nat):List Nat:=(List.range k).filter λi=>(ps[i]?.map (·.1)).getD false
theorem Ft(ps:List St.Pt)(k:Nat)(h:k<ps.length):jO ps (k+1)=jO ps k++(if ps[k].1=true then[k]else[]):=by
 unfold jO;rw[List.range_succ,List.filter_append];congr 1;simp only[List.filter_cons,List.filter_nil,List.getElem?_eq_getElem h,Option.map_some,Option.getD_some]
theorem yR(ps:List St.Pt)(k:Nat):(jO ps k).length<=k:=by
 unfold jO;exact Nat.le_trans (List.length_filter_le _ _) (by simp)
def DT(ps:List St.Pt)(w:VO)(e:Ending)(w':VO):Prop:=∃A c,e=VL (VF A (jb ps).length c)/\iz w' A (jb ps)/\(jb ps).length<=c/\c<=9223372036854775807/\ac w w'
def DU(w W1:VO)(ps:List St.Pt)(n:Nat)(s3 s:Value)(wr:VO):Prop:=∃k:Nat,k<=n/\s=VD VJ k/\wr.ownsRow (w.1.size+1) 3 1 s3 (jO ps k).length (eJ (jO ps k))/\ac W1 wr
theorem E8(fmt:Int)(A:Option Addr)(n c:Nat)(ps:List St.Pt)(w:VO)(hn:ps.length=n)(h:aY w A ps)(hl:n<=4000000000000) :
  Calls Tryz.prog 38 #[.agg #[VD VJ fmt,VF A n c]] w (DT ps w):=by
 have H:=aa h;have HN:=aa hn;obtain⟨i0,hi,hz0,hz1,hz2⟩:=info_parts fJ;have hb0:=heap_alloc_new w (VK #[VD VJ fmt,VF A n c] 25);clear h hn;go_enter Tryz.func38,Tryz.ntmps38;go_wp2_with fail;go_loopw [3,8] (λs3 s wr=>DU w (w.alloc (VK #[VD VJ fmt,VF A n c] 25)) ps n s3 s wr) (λ_ s _=>n+1-(intOf s).toNat)
 case atStart=>exact⟨0,by omega,rfl,World.ownsRow_nil _ _ _ _,ac.refl _⟩
 case round=>
  obtain⟨k,hk,rfl,hown,hu⟩:=hrel;have hN:=HN.out;have hb1:=(hu.below.block w.1.size (by simp)).trans hb0;have d0:wr.cell? ⟨w.1.size,0,VM⟩=VN (VD VJ fmt):=ai hb1 0;have d1:wr.cell? ⟨w.1.size,1,VM⟩=VN (VF A n c):=ai hb1 1;haveI:af w.1.size wr:=af.of (ae hb1);have HU:=aa hu;have HO:=aa hown;have jn:=aa (ac.trans (uZ:ac w (w.alloc (VK #[VD VJ fmt,VF A n c] 25))) hu);have hsz:=jn.out.size;have mG:=yR ps k;obtain⟨Ao,co,rfl,hco1,hco2⟩:=aC hown
  by_cases hlt:k<n
  ·have aG:k<ps.length:=by omega
   have tO:=Ft ps k aG;obtain⟨b,off,rfl,hb,hc⟩:=(H.out.ah jn.out) (by omega);obtain⟨c0,c1,c2⟩:=hc k aG;generalize ps[k]=x at c0 c1 c2 tO;obtain⟨xu,xk,xr⟩:=x;simp only at c0 c1 c2 tO;haveI:af b wr:=af.of hb;have z1:(k:Int)<(n:Int):=by omega
   have z0:(0:Int)<=(k:Int):=by omega
   have Qw:=aa tO;generalize Q6:jO ps k=us at *;have UR:=aa Q6;clear hc aG hu hb1 hown tO Q6;cases xu
   ·have HE:=aa (λ(wz:VO) (hz:ac wr wz)=>(show DU w (w.alloc (VK #[VD VJ fmt,VF (VN ⟨b,off,VM⟩) n c] 25)) ps n (VF Ao us.length co) (VD VJ ((k:Int)+1)) wz from
     ⟨k+1,by omega,congrArg (VD VJ) (by omega),by rw[Qw.out,if_neg (by simp),List.append_nil];exact aA hz HO.out,HU.out.trans hz⟩))
    go_wp2;exact⟨HE.out _ uZ,by simp[intOf];omega⟩
   go_wp2_with (at_builtin;refine wpList_append_own _ rfl _ _ 42 rfl (w.1.size+1) 3 i0 (.int .i64 0) 1 8 Tryz.underlying42 hi hz0 hz1 hz2 rfl (by decide) (.slice Ao us.length co) us.length _ rfl (HO.out.alloc _) _ 1 1 [.int .i64 (k:Int)] rfl rfl ?_ ?_ (by unfold maxLen;omega) (by omega) ?_ ?_)
   all_goals first|rfl|(have:=HU.out.size;simp at this |-;omega)|skip
   intro v' w4 hown' hgrow _;have aU:=(HU.out.alloc _).grown hgrow (λg hg=>by have:=ax HO.out g hg;simpa using this)
   have HE:=aa (show DU w (w.alloc (VK #[VD VJ fmt,VF (VN ⟨b,off,VM⟩) n c] 25)) ps n v' (VD VJ ((k:Int)+1)) w4 from
    ⟨k+1,by omega,congrArg (VD VJ) (by omega),by rw[Qw.out,if_pos trivial,dl,List.length_append];exact hown',aU⟩)
   obtain⟨A',c',rfl,_⟩:=aC hown';clear hown' hgrow aU;go_wp2;exact⟨HE.out,by simp[intOf];omega⟩
  obtain rfl:k=n:=by omega
  have z1:¬(k:Int)<(k:Int):=by omega
  have hun:jO ps k=jb ps:=by unfold jb jO;rw[hN]
  have HE:=aa (show DT ps w (VL (VF Ao (jb ps).length co)) wr from⟨Ao,co,rfl,by rw[<-hun];exact qL hown rfl,by rw[<-hun];exact hco1,by unfold maxLen at hco2;omega,jn.out⟩);have hll:(jO ps k).length=(jb ps).length:=by rw[hun]
  rw[hll];clear hlt hu hb1 hown;go_wp2;go_ret;exact HE.out
end
