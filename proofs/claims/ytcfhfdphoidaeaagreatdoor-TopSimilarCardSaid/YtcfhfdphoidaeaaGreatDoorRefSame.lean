/- The contracts of the reference's Same, SameInts, SameParts: they return true exactly if. -/
import Derived.Test.YtcfhfdphoidaeaaGreatDoorPart
set_option linter.unusedVariables false
set_option linter.unusedSimpArgs false
namespace Go.Proofs.YtcfhfdphoidaeaaGreatDoor
open Go.RowKit
def eqI(x y:St.It):Bool:=decide (x=y)
@[go_sem high] theorem run_neq_item (k i k' i':Int) (t t':List UInt8) (w:World):(binOp .neq 66 (.agg #[.int .i64 k,.string ⟨t.toArray⟩,.int .i64 i]) (.agg #[.int .i64 k',.string ⟨t'.toArray⟩,.int .i64 i'])).run Tryz.prog w=.ok (.bool (!eqI (k,t,i) (k',t',i'))) w:=by
 go_simp;unfold eqI
 by_cases h1:k=k' <;> by_cases h2:t=t' <;> by_cases h3:i=i' <;> simp[h1,h2,h3]
def eqQ(x y:St.Pt):Bool:=decide (x=y)
@[go_sem high] theorem run_neq_part (b b':Bool) (s s' t t':List UInt8) (w:World):(binOp .neq 110 (.agg #[.bool b,.string ⟨s.toArray⟩,.string ⟨t.toArray⟩]) (.agg #[.bool b',.string ⟨s'.toArray⟩,.string ⟨t'.toArray⟩])).run Tryz.prog w=.ok (.bool (!eqQ (b,s,t) (b',s',t'))) w:=by
 go_simp;unfold eqQ
 by_cases h1:b=b' <;> by_cases h2:s=s' <;> by_cases h3:t=t' <;> simp[h1,h2,h3]
def SaRel{α:Type}(w:World)(f g:List α)(n:Nat)(i:Value)(wr:World):Prop:=∃ k:Nat,k<=n/\i=.int .i64 k/\f.take k=g.take k/\Und w wr
theorem same_step{α:Type}{f g:List α}{k:Nat}(h:f.take k=g.take k)(h1:k<f.length)(h2:k<g.length)(e:f[k]=g[k]):f.take (k+1)=g.take (k+1):=by
 rw[List.take_add_one,List.take_add_one,h,List.getElem?_eq_getElem h1,List.getElem?_eq_getElem h2,e]
theorem same_end{α:Type}{f g:List α}{n:Nat}(h:f.take n=g.take n)(h1:f.length=n)(h2:g.length=n):f=g:=by
 rw[List.take_of_length_le (by omega),List.take_of_length_le (by omega)] at h;exact h
end Go.Proofs.YtcfhfdphoidaeaaGreatDoor
