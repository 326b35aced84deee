/- The contract of the laws' function 'known' of package bitextlaw2: it returns true. No conditions. -/
import Derived.Test.YtoalkjfdddjjaaaDoorRatSome
namespace Go.Proofs.YtoalkjfdddjjaaaDoor
open Go.RowKit

theorem make46 (w : World) : Calls Tryd.prog 16 #[.int .i64 4, .int .i64 (-6)] w fun e w' => e = .returned (.tuple #[.agg #[.int .i64 (-2), .int .i64 3], .bool true]) ∧ Und w w' := by
  have h := make_any 4 (-6) w
  rw [show Rt.rv (Rt.makeS 4 (-6)) = .tuple #[.agg #[.int .i64 (-2), .int .i64 3], .bool true] by kernel_rfl] at h
  exact h
theorem add1213 (w : World) : Calls Tryd.prog 17 #[.agg #[.int .i64 1, .int .i64 2], .agg #[.int .i64 1, .int .i64 3]] w fun e w' => e = .returned (.tuple #[.agg #[.int .i64 5, .int .i64 6], .bool true]) ∧ Und w w' := by
  have h := add_any 1 2 1 3 w
  rw [show Rt.rv (Rt.addS 1 2 1 3) = .tuple #[.agg #[.int .i64 5, .int .i64 6], .bool true] by kernel_rfl] at h
  exact h
set_option maxHeartbeats 400000 in
theorem known_any (w : World) : Calls Tryd.prog 8 #[] w fun e w' => e = .returned (.bool true) ∧ Und w w' := by
  go_enter Tryd.func8, Tryd.ntmps8
  go_wp2_with (first | (go_at_call 16; refine (make46 _).mono ?_; rintro e w' ⟨rfl, X, rfl⟩) | (go_at_call 17; refine (add1213 _).mono ?_; rintro e w' ⟨rfl, X, rfl⟩))
  go_ret
  exact ⟨rfl, (by repeat (first | exact Und.refl _ | assumption | refine Und.under ?_ _ | refine Und.alloc ?_ _ | refine Und.drew ?_ | refine Und.drewN ?_ _))⟩
end Go.Proofs.YtoalkjfdddjjaaaDoor
