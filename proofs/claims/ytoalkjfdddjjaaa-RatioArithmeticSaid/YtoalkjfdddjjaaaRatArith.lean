/- The law RatioArithmetic: for any two ratios Add, Subtract, Multiply and Compare return what the reference returns. No conditions. -/
import Derived.Test.YtoalkjfdddjjaaaRatKnown
namespace Go.Proofs.Ytoalkjfdddjjaaa
open Go.RowKit

set_option maxHeartbeats 1600000 in
theorem arith_any (a b c d : Int) (w : World) :
    Calls Try.prog 10 #[.agg #[.int .i64 a, .int .i64 b], .agg #[.int .i64 c, .int .i64 d]] w fun e w' => e = .returned (.bool true) ∧ Und w w' := by
  go_enter Try.func10, Try.ntmps10
  go_wp2_with (first | (go_at_call 18; refine (add_any _ _ _ _ _).mono ?_; rintro e w' ⟨rfl, X, rfl⟩) | (go_at_call 26; refine (radd_any _ _ _ _ _).mono ?_; rintro e w' ⟨rfl, X, rfl⟩) | (go_at_call 20; refine (sub_any _ _ _ _ _).mono ?_; rintro e w' ⟨rfl, X, rfl⟩) | (go_at_call 27; refine (rsub_any _ _ _ _ _).mono ?_; rintro e w' ⟨rfl, X, rfl⟩) | (go_at_call 19; refine (mul_any _ _ _ _ _).mono ?_; rintro e w' ⟨rfl, X, rfl⟩) | (go_at_call 28; refine (rmul_any _ _ _ _ _).mono ?_; rintro e w' ⟨rfl, X, rfl⟩))
  refine wp_region_under (by kernel_rfl) (by kernel_rfl) ?_
  repeat (go_big_quiet_step (first | (go_at_call 25; exact Calls.under_of (compare_any _ _ _ _ _)) | (go_at_call 29; exact Calls.under_of (rcompare_any _ _ _ _ _)) | (go_at_call 16; exact Calls.under_of (known_any _))))
  refine wpQuiet_nil ?_
  rintro _ ⟨X, rfl⟩
  go_wp2
  go_ret
  exact ⟨rfl, (by repeat (first | exact Und.refl _ | assumption | refine Und.under ?_ _ | refine Und.alloc ?_ _ | refine Und.drew ?_ | refine Und.drewN ?_ _))⟩
end Go.Proofs.Ytoalkjfdddjjaaa
