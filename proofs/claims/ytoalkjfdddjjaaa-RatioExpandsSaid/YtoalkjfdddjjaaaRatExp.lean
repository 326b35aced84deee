/- The law RatioExpands: multiplying the numerator and the denominator by the same number does not change the ratio. No conditions. -/
import Derived.Test.YtoalkjfdddjjaaaRatMakes
namespace Go.Proofs.Ytoalkjfdddjjaaa
open Go.RowKit

theorem Rt.make_sm {n d : Int} (h1 : -1073741824 ≤ n) (h2 : n ≤ 1073741824) (h3 : -1073741824 ≤ d) (h4 : d ≤ 1073741824) (h0 : d ≠ 0) : Rt.makeS n d = some (Rat.divInt n d) := by
  unfold Rt.makeS
  rw [if_neg (by simp; omega)]
  apply Rt.fit_some
  by_cases hd : d < 0
  · have e : Rat.divInt n d = Rat.divInt (-n) (-d) := by
      rw [Rat.divInt_neg', Int.neg_neg]
    rw [e]
    exact (Rt.sm_of (A := 1073741824) (B := 1073741824) (by omega) (by omega) (by omega) (by omega)).ok (by omega) (by omega)
  · exact (Rt.sm_of (A := 1073741824) (B := 1073741824) h1 h2 (by omega) h4).ok (by omega) (by omega)

set_option maxHeartbeats 800000 in
theorem exp_core (a b c n d k : Int) (w : World) (ha : a.tmod 30000 = n) (hb : b.tmod 30000 = d) (hc : c.tmod 30000 = k) (n1 : -29999 ≤ n) (n2 : n ≤ 29999) (d1 : -29999 ≤ d) (d2 : d ≤ 29999) (k1 : -29999 ≤ k) (k2 : k ≤ 29999) :
    Calls Try.prog 4 #[.int .i64 a, .int .i64 b, .int .i64 c] w fun e w' => e = .returned (.bool true) ∧ Und w w' := by
  by_cases hd : d = 0
  · have M : Hid (Rt.makeS n d = none) := hid (by unfold Rt.makeS; rw [if_pos (by simp [hd])])
    have e1 : (d == 0) = true := by simpa using hd
    have e2 : (d != 0) = false := by simpa using hd
    clear hd
    by_cases hk : k = 0
    all_goals
      have e3 := hid hk
      clear hk
    · have e4 : (k == 0) = true := by simpa using e3.out
      go_enter Try.func4, Try.ntmps4
      go_wp2_with (first | (go_at_call 12; refine (make_is _ _ _ _ M).mono ?_; rintro e w' ⟨rfl, X, rfl⟩) | (go_at_call 16; refine (known_any _).mono ?_; rintro e w' ⟨rfl, X, rfl⟩))
      go_ret
      exact ⟨rfl, (by repeat (first | exact Und.refl _ | assumption | refine Und.under ?_ _ | refine Und.alloc ?_ _ | refine Und.drew ?_ | refine Und.drewN ?_ _))⟩
    · have e4 : (k == 0) = false := by simpa using e3.out
      go_enter Try.func4, Try.ntmps4
      go_wp2_with (first | (go_at_call 12; refine (make_is _ _ _ _ M).mono ?_; rintro e w' ⟨rfl, X, rfl⟩) | (go_at_call 16; refine (known_any _).mono ?_; rintro e w' ⟨rfl, X, rfl⟩))
      go_ret
      exact ⟨rfl, (by repeat (first | exact Und.refl _ | assumption | refine Und.under ?_ _ | refine Und.alloc ?_ _ | refine Und.drew ?_ | refine Und.drewN ?_ _))⟩
  · have M : Hid (Rt.makeS n d = some (Rat.divInt n d)) := hid (Rt.make_sm (by omega) (by omega) (by omega) (by omega) hd)
    have e1 : (d == 0) = false := by simpa using hd
    have e2 : (d != 0) = true := by simpa using hd
    by_cases hk : k = 0
    · have e4 : (k == 0) = true := by simpa using hk
      clear hd hk
      go_enter Try.func4, Try.ntmps4
      go_wp2_with (first | (go_at_call 12; refine (make_is _ _ _ _ M).mono ?_; rintro e w' ⟨rfl, X, rfl⟩) | (go_at_call 16; refine (known_any _).mono ?_; rintro e w' ⟨rfl, X, rfl⟩))
      go_ret
      exact ⟨rfl, (by repeat (first | exact Und.refl _ | assumption | refine Und.under ?_ _ | refine Und.alloc ?_ _ | refine Und.drew ?_ | refine Und.drewN ?_ _))⟩
    · have e4 : (k == 0) = false := by simpa using hk
      have b1 : -899940001 ≤ n * k ∧ n * k ≤ 899940001 := by
        have e : (n * k).natAbs ≤ 29999 * 29999 := by rw [Int.natAbs_mul]; exact Nat.mul_le_mul (by omega) (by omega)
        omega
      have b2 : -899940001 ≤ d * k ∧ d * k ≤ 899940001 := by
        have e : (d * k).natAbs ≤ 29999 * 29999 := by rw [Int.natAbs_mul]; exact Nat.mul_le_mul (by omega) (by omega)
        omega
      have M2 : Hid (Rt.makeS (n * k) (d * k) = some (Rat.divInt n d)) := hid (by
        rw [Rt.make_sm (by omega) (by omega) (by omega) (by omega) (Int.mul_ne_zero hd hk), Rat.divInt_mul_right hk])
      clear hd hk
      go_enter Try.func4, Try.ntmps4
      go_wp2_with fail
      refine (make_is _ _ _ _ M).mono ?_
      rintro e w' ⟨rfl, X, rfl⟩
      go_wp2_with fail
      refine (make_is _ _ _ _ M2).mono ?_
      rintro e w' ⟨rfl, X2, rfl⟩
      go_wp2_with (go_at_call 16; refine (known_any _).mono ?_; rintro e w' ⟨rfl, X, rfl⟩)
      go_ret
      exact ⟨rfl, (by repeat (first | exact Und.refl _ | assumption | refine Und.under ?_ _ | refine Und.alloc ?_ _ | refine Und.drew ?_ | refine Und.drewN ?_ _))⟩

theorem exp_any (a b c : Int) (w : World) : Calls Try.prog 4 #[.int .i64 a, .int .i64 b, .int .i64 c] w fun e w' => e = .returned (.bool true) ∧ Und w w' := by
  have h1 := Rt.tmod_bd a 30000 (by omega)
  have h2 := Rt.tmod_bd b 30000 (by omega)
  have h3 := Rt.tmod_bd c 30000 (by omega)
  exact exp_core a b c _ _ _ w rfl rfl rfl (by omega) (by omega) (by omega) (by omega) (by omega) (by omega)
end Go.Proofs.Ytoalkjfdddjjaaa
