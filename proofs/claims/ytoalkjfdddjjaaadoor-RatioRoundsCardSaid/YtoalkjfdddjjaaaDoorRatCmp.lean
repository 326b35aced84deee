/- Contracts of Compare and Floor of package ratio and of its reference, for any ratios. No conditions. -/
import Derived.Test.YtoalkjfdddjjaaaDoorRatOps
namespace Go.Proofs.YtoalkjfdddjjaaaDoor
open Go.RowKit

theorem Rt.fl_lo {n d : Int} (hd : 1 ≤ d) (h : n.tmod d < 0) : n.tdiv d - 1 = n / d := by
  have h1 := Int.mul_tdiv_add_tmod n d
  rw [Int.mul_comm] at h1
  have h2 : -d < n.tmod d := by
    have := Int.lt_tmod_of_pos n (by omega : 0 < d)
    omega
  symm
  rw [Int.ediv_eq_iff_of_pos (by omega)]
  rw [Int.sub_mul]; constructor <;> omega
theorem Rt.fl_hi {n d : Int} (hd : 1 ≤ d) (h : ¬ n.tmod d < 0) : n.tdiv d = n / d := by
  have h1 := Int.mul_tdiv_add_tmod n d
  rw [Int.mul_comm] at h1
  have h2 : n.tmod d < d := Int.tmod_lt_of_pos n (by omega)
  symm
  rw [Int.ediv_eq_iff_of_pos (by omega)]
  constructor <;> omega
def Rt.flN (o : Option Int) : Int := o.getD 0
def Rt.flV (o : Option Int) : Value := .tuple #[.int .i64 (Rt.flN o), .bool o.isSome]

end Go.Proofs.YtoalkjfdddjjaaaDoor
