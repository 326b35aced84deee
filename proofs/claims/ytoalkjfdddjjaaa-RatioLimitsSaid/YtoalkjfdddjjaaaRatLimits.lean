/- The law RatioLimits: ratios near the greatest numerator and denominator give the exact value, or none. No conditions. -/
import Derived.Test.YtoalkjfdddjjaaaRatEq
import Derived.Test.YtoalkjfdddjjaaaRatFloors
import Derived.Test.YtoalkjfdddjjaaaMkPlace
import Derived.Outline
namespace Go.Proofs.Ytoalkjfdddjjaaa
open Go.RowKit

theorem floor_l1 (w : World) : Calls Try.prog 23 #[.agg #[.int .i64 (-1073741824), .int .i64 1], .int .i64 1073741824] w fun e w' => e = .returned (.tuple #[.int .i64 (-1152921504606846976), .bool true]) ∧ Und w w' :=
  floor_o _ _ _ _ _ (by kernel_rfl) w
theorem floor_l2 (w : World) : Calls Try.prog 23 #[.agg #[.int .i64 1, .int .i64 1], .int .i64 1073741825] w fun e w' => e = .returned (.tuple #[.int .i64 0, .bool false]) ∧ Und w w' :=
  floor_o _ _ _ _ _ (by kernel_rfl) w

def Lims (w : World) (k : Value) (wr : World) : Prop := ∃ j : Nat, j ≤ 4 ∧ k = .int .i64 j ∧ Und w wr

set_option maxRecDepth 100000 in
set_option maxHeartbeats 8000000 in
theorem limits_core (a b c d p q r s x0 x1 y0 y1 : Int) (w : World) (hp : a % 5 = p) (p1 : 0 ≤ p) (p2 : p ≤ 4) (hq : b % 3 = q) (q1 : 0 ≤ q) (q2 : q ≤ 2) (hr : c % 3 = r) (r1 : 0 ≤ r) (r2 : r ≤ 2) (hs : d % 5 = s) (s1 : 0 ≤ s) (s2 : s ≤ 4)
    (e1 : 1073741821 + p = x0) (e2 : 1 + q = x1) (e3 : 1 - r = y0) (e4 : 1073741821 + s = y1) : Calls Try.prog 11 #[.int .i64 a, .int .i64 b, .int .i64 c, .int .i64 d] w fun e w' => e = .returned (.bool true) ∧ Und w w' := by
  have i0 : ∀ W, (Instr.index 44 (.agg #[.int .i64 x0, .int .i64 x1, .int .i64 y0, .int .i64 y1, .int .i64 y0, .int .i64 y1, .int .i64 x0, .int .i64 x1, .int .i64 x0, .int .i64 x1, .int .i64 x0, .int .i64 x1, .int .i64 y0, .int .i64 y1, .int .i64 y0, .int .i64 y1]) (.int .i64 0)).run Try.prog W = .ok (.agg #[.int .i64 x0, .int .i64 x1, .int .i64 y0, .int .i64 y1]) W := fun _ => by kernel_rfl
  have i1 : ∀ W, (Instr.index 44 (.agg #[.int .i64 x0, .int .i64 x1, .int .i64 y0, .int .i64 y1, .int .i64 y0, .int .i64 y1, .int .i64 x0, .int .i64 x1, .int .i64 x0, .int .i64 x1, .int .i64 x0, .int .i64 x1, .int .i64 y0, .int .i64 y1, .int .i64 y0, .int .i64 y1]) (.int .i64 1)).run Try.prog W = .ok (.agg #[.int .i64 y0, .int .i64 y1, .int .i64 x0, .int .i64 x1]) W := fun _ => by kernel_rfl
  have i2 : ∀ W, (Instr.index 44 (.agg #[.int .i64 x0, .int .i64 x1, .int .i64 y0, .int .i64 y1, .int .i64 y0, .int .i64 y1, .int .i64 x0, .int .i64 x1, .int .i64 x0, .int .i64 x1, .int .i64 x0, .int .i64 x1, .int .i64 y0, .int .i64 y1, .int .i64 y0, .int .i64 y1]) (.int .i64 2)).run Try.prog W = .ok (.agg #[.int .i64 x0, .int .i64 x1, .int .i64 x0, .int .i64 x1]) W := fun _ => by kernel_rfl
  have i3 : ∀ W, (Instr.index 44 (.agg #[.int .i64 x0, .int .i64 x1, .int .i64 y0, .int .i64 y1, .int .i64 y0, .int .i64 y1, .int .i64 x0, .int .i64 x1, .int .i64 x0, .int .i64 x1, .int .i64 x0, .int .i64 x1, .int .i64 y0, .int .i64 y1, .int .i64 y0, .int .i64 y1]) (.int .i64 3)).run Try.prog W = .ok (.agg #[.int .i64 y0, .int .i64 y1, .int .i64 y0, .int .i64 y1]) W := fun _ => by kernel_rfl
  go_enter Try.func11, Try.ntmps11
  go_wp2_with (first | (go_at_call 30; refine (place_any _ _ _ (by omega) (by omega)).mono ?_; rintro e w' ⟨rfl, rfl⟩) | (go_at_call 12; refine (make_any _ _ _).mono ?_; rintro e w' ⟨rfl, X, rfl⟩) | (go_at_call 13; refine (rmake_any _ _ _).mono ?_; rintro e w' ⟨rfl, X, rfl⟩))
  clear hp p1 p2 hq q1 q2 hr r1 r2 hs s1 s2 e1 e2 e3 e4
  go_loopw [80] (fun k wr => Lims w k wr) (fun k _ => 4 - (intOf k).toNat)
  case atStart => exact ⟨0, by omega, rfl, (by repeat (first | exact Und.refl _ | assumption | refine Und.under ?_ _ | refine Und.alloc ?_ _ | refine Und.drew ?_ | refine Und.drewN ?_ _))⟩
  case round =>
    obtain ⟨j, hj, rfl, hU⟩ := hrel
    rcases (show j = 0 ∨ j = 1 ∨ j = 2 ∨ j = 3 ∨ j = 4 by omega) with rfl | rfl | rfl | rfl | rfl
    rotate_right
    · clear hj
      go_wp2_with fail
      refine (floor_l1 _).mono ?_; rintro e w' ⟨rfl, X1, rfl⟩
      go_wp2_with fail
      refine (floor_l2 _).mono ?_; rintro e w' ⟨rfl, X2, rfl⟩
      go_wp2_with (go_at_call 16; refine (known_any _).mono ?_; rintro e w' ⟨rfl, X14, rfl⟩)
      go_ret
      exact ⟨rfl, (Und.refl w).trans hU |>.trans (by repeat (first | exact Und.refl _ | assumption | refine Und.under ?_ _ | refine Und.alloc ?_ _ | refine Und.drew ?_ | refine Und.drewN ?_ _))⟩
    all_goals
      clear hj
      go_wp2_with (first | (go_at_call 18; refine (add_any _ _ _ _ _).mono ?_; rintro e w' ⟨rfl, X, rfl⟩) | (go_at_call 26; refine (radd_any _ _ _ _ _).mono ?_; rintro e w' ⟨rfl, X, rfl⟩) | (go_at_call 19; refine (mul_any _ _ _ _ _).mono ?_; rintro e w' ⟨rfl, X, rfl⟩) | (go_at_call 28; refine (rmul_any _ _ _ _ _).mono ?_; rintro e w' ⟨rfl, X, rfl⟩))
      refine wp_region_under (by kernel_rfl) (by kernel_rfl) ?_
      repeat (go_big_quiet_step (first | (go_at_call 25; exact Calls.under_of (compare_any _ _ _ _ _)) | (go_at_call 29; exact Calls.under_of (rcompare_any _ _ _ _ _)) | (go_at_call 14; exact Calls.under_of (valid_any _ _ _)) | (go_at_call 15; exact Calls.under_of (rvalid_any _ _ _))))
      refine wpQuiet_nil ?_
      rintro _ ⟨X, rfl⟩
      go_wp2
      go_roundw
      case rel =>
        first | exact ⟨1, by decide, rfl, hU.trans (by repeat (first | exact Und.refl _ | assumption | refine Und.under ?_ _ | refine Und.alloc ?_ _ | refine Und.drew ?_ | refine Und.drewN ?_ _))⟩ | exact ⟨2, by decide, rfl, hU.trans (by repeat (first | exact Und.refl _ | assumption | refine Und.under ?_ _ | refine Und.alloc ?_ _ | refine Und.drew ?_ | refine Und.drewN ?_ _))⟩ | exact ⟨3, by decide, rfl, hU.trans (by repeat (first | exact Und.refl _ | assumption | refine Und.under ?_ _ | refine Und.alloc ?_ _ | refine Und.drew ?_ | refine Und.drewN ?_ _))⟩ | exact ⟨4, by decide, rfl, hU.trans (by repeat (first | exact Und.refl _ | assumption | refine Und.under ?_ _ | refine Und.alloc ?_ _ | refine Und.drew ?_ | refine Und.drewN ?_ _))⟩
      case measure => simp [intOf]

theorem limits_any (a b c d : Int) (w : World) : Calls Try.prog 11 #[.int .i64 a, .int .i64 b, .int .i64 c, .int .i64 d] w fun e w' => e = .returned (.bool true) ∧ Und w w' :=
  limits_core a b c d _ _ _ _ _ _ _ _ w rfl (by omega) (by omega) rfl (by omega) (by omega) rfl (by omega) (by omega) rfl (by omega) (by omega) rfl rfl rfl rfl
end Go.Proofs.Ytoalkjfdddjjaaa
