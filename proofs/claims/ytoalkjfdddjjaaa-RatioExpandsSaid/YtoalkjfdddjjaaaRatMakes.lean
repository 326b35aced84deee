/- The law RatioMakes: for any numbers Make returns what the reference returns, a valid ratio or none, and Valid answers as the reference does. No conditions. -/
import Derived.Test.YtoalkjfdddjjaaaRatKnown
import Derived.Outline
namespace Go.Proofs.Ytoalkjfdddjjaaa
open Go.RowKit

theorem make_is (n d : Int) (w : World) (o : Option Rat) (h : Hid (Rt.makeS n d = o)) : Calls Try.prog 12 #[.int .i64 n, .int .i64 d] w fun e w' => e = .returned (Rt.rv o) ∧ Und w w' := h.out ▸ make_any n d w
theorem rmake_is (n d : Int) (w : World) (o : Option Rat) (h : Hid (Rt.makeS n d = o)) : Calls Try.prog 13 #[.int .i64 n, .int .i64 d] w fun e w' => e = .returned (Rt.rv o) ∧ Und w w' := h.out ▸ rmake_any n d w

set_option maxHeartbeats 800000 in
theorem makes_none (n d a b : Int) (w : World) (h : Hid (Rt.makeS n d = none)) :
    Calls Try.prog 3 #[.int .i64 n, .int .i64 d, .agg #[.int .i64 a, .int .i64 b]] w fun e w' => e = .returned (.bool true) ∧ Und w w' := by
  go_enter Try.func3, Try.ntmps3
  go_wp2_with (first | (go_at_call 12; refine (make_is _ _ _ _ h).mono ?_; rintro e w' ⟨rfl, X, rfl⟩) | (go_at_call 13; refine (rmake_is _ _ _ _ h).mono ?_; rintro e w' ⟨rfl, X, rfl⟩))
  refine wp_region_under (by kernel_rfl) (by kernel_rfl) ?_
  repeat (go_big_quiet_step (first | (go_at_call 14; exact Calls.under_of (valid_any _ _ _)) | (go_at_call 15; exact Calls.under_of (rvalid_any _ _ _)) | (go_at_call 16; exact Calls.under_of (known_any _))))
  refine wpQuiet_nil ?_
  rintro _ ⟨X, rfl⟩
  go_wp2
  go_ret
  exact ⟨rfl, (by repeat (first | exact Und.refl _ | assumption | refine Und.under ?_ _ | refine Und.alloc ?_ _ | refine Und.drew ?_ | refine Und.drewN ?_ _))⟩
set_option maxHeartbeats 800000 in
theorem makes_some (n d a b : Int) (q : Rat) (w : World) (h : Hid (Rt.makeS n d = some q)) (hv : Hid (Rt.vB q.num q.den = true)) :
    Calls Try.prog 3 #[.int .i64 n, .int .i64 d, .agg #[.int .i64 a, .int .i64 b]] w fun e w' => e = .returned (.bool true) ∧ Und w w' := by
  go_enter Try.func3, Try.ntmps3
  go_wp2_with (first | (go_at_call 12; refine (make_is _ _ _ _ h).mono ?_; rintro e w' ⟨rfl, X, rfl⟩) | (go_at_call 13; refine (rmake_is _ _ _ _ h).mono ?_; rintro e w' ⟨rfl, X, rfl⟩))
  refine wp_region_under (by kernel_rfl) (by kernel_rfl) ?_
  repeat (go_big_quiet_step (first | (go_at_call 14; exact Calls.under_of (valid_t _ _ _ hv.out)) | (go_at_call 14; exact Calls.under_of (valid_any a b _)) | (go_at_call 15; exact Calls.under_of (rvalid_any _ _ _)) | (go_at_call 16; exact Calls.under_of (known_any _))))
  refine wpQuiet_nil ?_
  rintro _ ⟨X, rfl⟩
  go_wp2
  go_ret
  exact ⟨rfl, (by repeat (first | exact Und.refl _ | assumption | refine Und.under ?_ _ | refine Und.alloc ?_ _ | refine Und.drew ?_ | refine Und.drewN ?_ _))⟩

theorem makes_any (n d a b : Int) (w : World) : Calls Try.prog 3 #[.int .i64 n, .int .i64 d, .agg #[.int .i64 a, .int .i64 b]] w fun e w' => e = .returned (.bool true) ∧ Und w w' := by
  cases h : Rt.makeS n d with
  | none => exact makes_none n d a b w (hid h)
  | some q =>
    refine makes_some n d a b q w (hid h) (hid (Rt.vB_of q ?_))
    unfold Rt.makeS at h
    split at h
    · cases h
    · unfold Rt.fit at h
      split at h
      · cases h; assumption
      · cases h
end Go.Proofs.Ytoalkjfdddjjaaa
