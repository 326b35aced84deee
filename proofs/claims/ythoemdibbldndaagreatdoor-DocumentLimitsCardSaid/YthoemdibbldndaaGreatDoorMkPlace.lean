/- The contract of bitextmake.Place: the remainder that is not negative. Condition: the second number is from 1 to 2 to the 62. -/
import Derived.Test.YthoemdibbldndaaGreatDoorRows
import Derived.Test.YthoemdibbldndaaGreatDoorUnder
set_option linter.unusedVariables false
set_option linter.unusedSimpArgs false
namespace Go.Proofs.YthoemdibbldndaaGreatDoor
open Go.RowKit

theorem tmod_lo {x n : Int} (hn : 1 ≤ n) (h : x.tmod n < 0) : x.tmod n + n = x % n := by
  have h1 := Int.lt_tmod_of_pos x (by omega : 0 < n)
  have h2 := Int.mul_tdiv_add_tmod x n
  have h3 : x = (x.tmod n + n) + n * (x.tdiv n - 1) := by rw [Int.mul_sub]; omega
  rw [h3, Int.add_mul_emod_self_left, ← h3]
  exact (Int.emod_eq_of_lt (by omega) (by omega)).symm
theorem tmod_hi {x n : Int} (hn : 1 ≤ n) (h : ¬ x.tmod n < 0) : x.tmod n = x % n := by
  have h1 := Int.tmod_lt_of_pos x (by omega : 0 < n)
  have h2 := Int.mul_tdiv_add_tmod x n
  have h3 : x = x.tmod n + n * x.tdiv n := by omega
  rw [h3, Int.add_mul_emod_self_left, ← h3]
  exact (Int.emod_eq_of_lt (by omega) (by omega)).symm
theorem place_any (x n : Int) (w : World) (h1 : 1 ≤ n) (h2 : n ≤ 4611686018427387904) :
    Calls Tryz.prog 15 #[.int .i64 x, .int .i64 n] w fun e w' => e = .returned (.int .i64 (x % n)) ∧ w = w' := by
  have b1 := Int.lt_tmod_of_pos x (by omega : 0 < n)
  have b2 := Int.tmod_lt_of_pos x (by omega : 0 < n)
  have hs : ¬ n = 0 := by omega
  have hs' : ¬ n = -1 := by omega
  by_cases h : x.tmod n < 0
  · go_enter Tryz.func15, Tryz.ntmps15
    go_wp2
    go_ret
    exact ⟨ret_int (tmod_lo h1 h), rfl⟩
  · go_enter Tryz.func15, Tryz.ntmps15
    go_wp2
    go_ret
    exact ⟨ret_int (tmod_hi h1 (by omega)), rfl⟩
end Go.Proofs.YthoemdibbldndaaGreatDoor
