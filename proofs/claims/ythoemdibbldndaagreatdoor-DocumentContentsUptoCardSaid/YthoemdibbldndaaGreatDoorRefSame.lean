/- The contracts of the reference's Same, SameInts, SameParts: they return true exactly if. -/
import Derived.Test.YthoemdibbldndaaGreatDoorPart
set_option linter.unusedVariables false
set_option linter.unusedSimpArgs false
set_option maxHeartbeats 12800000
namespace Go.Proofs.YthoemdibbldndaaGreatDoor
open Go.RowKit
def eqI(x y:St.It):Bool:=decide (x=y)
@[go_sem high] theorem run_neq_item (k i k' i':Int) (t t':List UInt8) (w:World):(binOp .neq 36 (.agg #[.int .i64 k,.string ⟨t.toArray⟩,.int .i64 i]) (.agg #[.int .i64 k',.string ⟨t'.toArray⟩,.int .i64 i'])).run Tryz.prog w=.ok (.bool (!eqI (k,t,i) (k',t',i'))) w:=by
 go_simp;unfold eqI
 by_cases h1:k=k' <;> by_cases h2:t=t' <;> by_cases h3:i=i' <;> simp[h1,h2,h3]
def eqQ(x y:St.Pt):Bool:=decide (x=y)
@[go_sem high] theorem run_neq_part (b b':Bool) (s s' t t':List UInt8) (w:World):(binOp .neq 64 (.agg #[.bool b,.string ⟨s.toArray⟩,.string ⟨t.toArray⟩]) (.agg #[.bool b',.string ⟨s'.toArray⟩,.string ⟨t'.toArray⟩])).run Tryz.prog w=.ok (.bool (!eqQ (b,s,t) (b',s',t'))) w:=by
 go_simp;unfold eqQ
 by_cases h1:b=b' <;> by_cases h2:s=s' <;> by_cases h3:t=t' <;> simp[h1,h2,h3]
def SaRel{α:Type}(w:World)(f g:List α)(n:Nat)(i:Value)(wr:World):Prop:=∃ k:Nat,k<=n/\i=.int .i64 k/\f.take k=g.take k/\Und w wr
theorem same_step{α:Type}{f g:List α}{k:Nat}(h:f.take k=g.take k)(h1:k<f.length)(h2:k<g.length)(e:f[k]=g[k]):f.take (k+1)=g.take (k+1):=by
 rw[List.take_add_one,List.take_add_one,h,List.getElem?_eq_getElem h1,List.getElem?_eq_getElem h2,e]
theorem same_end{α:Type}{f g:List α}{n:Nat}(h:f.take n=g.take n)(h1:f.length=n)(h2:g.length=n):f=g:=by
 rw[List.take_of_length_le (by omega),List.take_of_length_le (by omega)] at h;exact h
theorem rsame_any(A B:Option Addr)(n m c d:Nat)(f g:List St.It)(w:World)(hn:f.length=n)(hm:g.length=m)(hc:n<=c)(hd:m<=d)(hc63:c<=9223372036854775807)(hd63:d<=9223372036854775807)(hA:ItemsAt w A f)(hB:ItemsAt w B g) :
  Calls Tryz.prog 28 #[.slice A n c,.slice B m d] w fun e w'=>e=.returned (.bool (decide (f=g)))/\Und w w':=by
 by_cases hnm:n=m
 ·subst hnm
  have HA:=hid hA;have HB:=hid hB;have HN:=hid hn;have HM:=hid hm;clear hA hB hn hm;go_enter Tryz.func28,Tryz.ntmps28;go_wp2;go_loopw [13] (fun i wr=>SaRel w f g n i wr) (fun i _=>n+1-(intOf i).toNat)
  case atStart=>exact⟨0,by omega,rfl,rfl,Und.refl _⟩
  case round=>
   obtain⟨k,hk,rfl,hs,hu⟩:=hrel;have HU:=hid hu;have HS:=hid hs;clear hu hs
   by_cases hlt:k<n
   ·have hk1:k<f.length:=by rw[HN.out];exact hlt
    have hk2:k<g.length:=by rw[HM.out];exact hlt
    obtain⟨b,o,rfl,hb,hc1⟩:=(HA.out.und HU.out) (by omega);obtain⟨b',o',rfl,hb',hc2⟩:=(HB.out.und HU.out) (by omega);obtain⟨h1,h2,h3⟩:=hc1 k hk1;obtain⟨h1',h2',h3'⟩:=hc2 k hk2;have hst:=hid (fun e=>same_step HS.out hk1 hk2 e);have hne:f[k] ≠ g[k]->f ≠ g:=fun h e=>h (by subst e;rfl)
    have HNE:=hid hne;generalize f[k]=x at h1 h2 h3 hst HNE;generalize g[k]=y at h1' h2' h3' hst HNE;obtain⟨xk,xt,xi⟩:=x;obtain⟨yk,yt,yi⟩:=y;simp only at h1 h2 h3 h1' h2' h3';haveI:LtW b wr:=LtW.of hb;haveI:LtW b' wr:=LtW.of hb';clear hc1 hc2 hk1 hk2 hne;cases he:eqI (xk,xt,xi) (yk,yt,yi)
    ·have hF:=hid (HNE.out (of_decide_eq_false he))
     go_wp2_with fail;go_quiet (fail);go_wp2;go_ret;refine⟨ret_bool (decide_eq_false hF.out).symm,(by apply_rules[uUe,uUa,uUb,uUc,uUd])⟩
    ·have hF:=hid (hst.out (of_decide_eq_true he))
     go_wp2_with fail;go_quiet (fail);go_wp2;refine⟨⟨k+1,by omega,rfl,hF.out,HU.out.trans (by apply_rules[uUe,uUa,uUb,uUc,uUd])⟩,by simp[intOf];omega⟩
   ·obtain rfl:k=n:=by omega
    have hF:=hid (same_end HS.out HN.out HM.out);clear hlt;go_wp2;go_ret;exact⟨ret_bool (decide_eq_true hF.out).symm,HU.out⟩
 ·have hF:=hid (show ¬ f=g from fun e=>hnm (by rw[<- hn,<- hm,e]))
  have z:((n:Int)==(m:Int))=false:=by simp;omega
  clear hA hB hn hm;go_enter Tryz.func28,Tryz.ntmps28;go_wp2;go_ret;exact⟨ret_bool (decide_eq_false hF.out).symm,Und.refl _⟩
end Go.Proofs.YthoemdibbldndaaGreatDoor
