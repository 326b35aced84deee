/- The contracts of the reference's Same, SameInts, SameParts: they return true exactly if. -/
import Derived.Test.YthoemdibbldndaaGreatDoorPart
set_option linter.all false
set_option maxHeartbeats 0
open Go.Value renaming int->Yh,string->Yi,bool->Yk
namespace Go.Proofs.YthoemdibbldndaaGreatDoor
open Go.RowKit
def NN(x y:St.It):Bool:=decide (x=y)
@[go_sem high] theorem run_neq_item (k i k' i':Int) (t t':List UInt8) (w:World):(binOp .neq 36 (.agg #[Yh .i64 k,Yi ⟨t.toArray⟩,Yh .i64 i]) (.agg #[Yh .i64 k',Yi ⟨t'.toArray⟩,Yh .i64 i'])).run Tryz.prog w=.ok (Yk (!NN (k,t,i) (k',t',i'))) w:=by
 go_simp;unfold NN
 by_cases h1:k=k'<;>by_cases h2:t=t'<;>by_cases h3:i=i'<;>simp[h1,h2,h3]
def NO(x y:St.Pt):Bool:=decide (x=y)
@[go_sem high] theorem run_neq_part (b b':Bool) (s s' t t':List UInt8) (w:World):(binOp .neq 64 (.agg #[Yk b,Yi ⟨s.toArray⟩,Yi ⟨t.toArray⟩]) (.agg #[Yk b',Yi ⟨s'.toArray⟩,Yi ⟨t'.toArray⟩])).run Tryz.prog w=.ok (Yk (!NO (b,s,t) (b',s',t'))) w:=by
 go_simp;unfold NO
 by_cases h1:b=b'<;>by_cases h2:s=s'<;>by_cases h3:t=t'<;>simp[h1,h2,h3]
def Gs{α:Type}(w:World)(f g:List α)(n:Nat)(i:Value)(wr:World):Prop:=∃k:Nat,k<=n/\i=Yh .i64 k/\f.take k=g.take k/\ac w wr
theorem uc{α:Type}{f g:List α}{k:Nat}(h:f.take k=g.take k)(h1:k<f.length)(h2:k<g.length)(e:f[k]=g[k]):f.take (k+1)=g.take (k+1):=by
 rw[List.take_add_one,List.take_add_one,h,List.getElem?_eq_getElem h1,List.getElem?_eq_getElem h2,e]
theorem vY{α:Type}{f g:List α}{n:Nat}(h:f.take n=g.take n)(h1:f.length=n)(h2:g.length=n):f=g:=by
 rw[List.take_of_length_le (by omega),List.take_of_length_le (by omega)]at h;exact h
theorem Ky(A B:Option Addr)(n m c d:Nat)(f g:List St.It)(w:World)(hn:f.length=n)(hm:g.length=m)(hc:n<=c)(hd:m<=d)(dG:c<=9223372036854775807)(fU:d<=9223372036854775807)(hA:aH w A f)(hB:aH w B g) :
  Calls Tryz.prog 28 #[.slice A n c,.slice B m d] w λe w'=>e=.returned (Yk (decide (f=g)))/\ac w w':=by
 by_cases be:n=m
 ·subst be;have HA:=aa hA;have HB:=aa hB;have HN:=aa hn;have HM:=aa hm;clear hA hB hn hm;go_enter Tryz.func28,Tryz.ntmps28;go_wp2;go_loopw [13] (λi wr=>Gs w f g n i wr) (λi _=>n+1-(intOf i).toNat)
  case atStart=>exact⟨0,by omega,rfl,rfl,ac.refl _⟩
  case round=>
   obtain⟨k,hk,rfl,hs,hu⟩:=hrel;have HU:=aa hu;have HS:=aa hs;clear hu hs
   by_cases hlt:k<n
   ·have hk1:k<f.length:=by rw[HN.out];exact hlt
    have hk2:k<g.length:=by rw[HM.out];exact hlt
    obtain⟨b,o,rfl,hb,hc1⟩:=(HA.out.ai HU.out) (by omega);obtain⟨b',o',rfl,hb',hc2⟩:=(HB.out.ai HU.out) (by omega);obtain⟨h1,h2,h3⟩:=hc1 k hk1;obtain⟨h1',h2',h3'⟩:=hc2 k hk2;have hst:=aa (λe=>uc HS.out hk1 hk2 e);have hne:f[k]≠g[k]->f≠g:=λh e=>h (by subst e;rfl)
    have iy:=aa hne;generalize f[k]=x at h1 h2 h3 hst iy;generalize g[k]=y at h1' h2' h3' hst iy;obtain⟨xk,xt,xi⟩:=x;obtain⟨yk,yt,yi⟩:=y;simp only at h1 h2 h3 h1' h2' h3';haveI:af b wr:=af.of hb;haveI:af b' wr:=af.of hb';clear hc1 hc2 hk1 hk2 hne;cases he:NN (xk,xt,xi) (yk,yt,yi)
    ·have hF:=aa (iy.out (of_decide_eq_false he));go_wp2_with fail;go_quiet (fail);go_wp2;go_ret;refine⟨az (decide_eq_false hF.out).symm,uZ⟩
    have hF:=aa (hst.out (of_decide_eq_true he));go_wp2_with fail;go_quiet (fail);go_wp2;refine⟨⟨k+1,by omega,rfl,hF.out,HU.out.trans uZ⟩,by simp[intOf];omega⟩
   obtain rfl:k=n:=by omega
   have hF:=aa (vY HS.out HN.out HM.out);clear hlt;go_wp2;go_ret;exact⟨az (decide_eq_true hF.out).symm,HU.out⟩
 have hF:=aa (show ¬f=g from λe=>be (by rw[<-hn,<-hm,e]));have z:((n:Int)==(m:Int))=false:=by simp;omega
 clear hA hB hn hm;go_enter Tryz.func28,Tryz.ntmps28;go_wp2;go_ret;exact⟨az (decide_eq_false hF.out).symm,ac.refl _⟩
