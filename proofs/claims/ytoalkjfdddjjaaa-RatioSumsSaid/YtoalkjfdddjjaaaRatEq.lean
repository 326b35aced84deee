/- Equality of two ratios as one Bool that the walk does not take apart. -/
import Derived.Test.YtoalkjfdddjjaaaRatQ
namespace Go.Proofs.Ytoalkjfdddjjaaa
open Go.RowKit

def eqP (a b c d : Int) : Bool := decide (a = c ∧ b = d)
@[go_sem] theorem eqP_self (a b : Int) : eqP a b a b = true := by simp [eqP]
@[go_sem high] theorem run_eql_ratio (a b c d : Int) (w : World) : (binOp .eql 23 (.agg #[.int .i64 a, .int .i64 b]) (.agg #[.int .i64 c, .int .i64 d])).run Try.prog w = .ok (.bool (eqP a b c d)) w := by
  go_simp
  unfold eqP
  by_cases h1 : a = c <;> by_cases h2 : b = d <;> simp [h1, h2]
@[go_sem high] theorem run_neq_ratio (a b c d : Int) (w : World) : (binOp .neq 23 (.agg #[.int .i64 a, .int .i64 b]) (.agg #[.int .i64 c, .int .i64 d])).run Try.prog w = .ok (.bool (!eqP a b c d)) w := by
  go_simp
  unfold eqP
  by_cases h1 : a = c <;> by_cases h2 : b = d <;> simp [h1, h2]
theorem eqP_ne {x y : Rat} (h : x ≠ y) : eqP x.num x.den y.num y.den = false := by
  unfold eqP
  rw [decide_eq_false_iff_not]
  rintro ⟨h1, h2⟩
  exact h (Rat.ext h1 (by omega))
end Go.Proofs.Ytoalkjfdddjjaaa
