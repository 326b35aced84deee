/- The contracts of the functions of package ratio and its reference: the greatest common divisor, the magnitude, Valid, reduce, Make, Add, Subtract, Multiply, Compare, Floor. Conditions: the ranges stated. -/
import Derived.Test.YtoalkjfdddjjaaaDoorRows
import Derived.Test.YtoalkjfdddjjaaaDoorRatPlain
import Derived.Test.YtoalkjfdddjjaaaDoorUnder
namespace Go.Proofs.YtoalkjfdddjjaaaDoor
open Go.RowKit

set_option maxHeartbeats 400000 in
theorem divisor_any (a b : Int) (w : World) (ha : 0 ≤ a) (ha' : a ≤ 9223372036854775807) (hb : 0 ≤ b) (hb' : b ≤ 9223372036854775807) :
    Calls Tryd.prog 18 #[.int .i64 a, .int .i64 b] w fun e w' => e = .returned (.int .i64 (Int.gcd a b)) ∧ Und w w' := by
  go_enter Tryd.func18, Tryd.ntmps18
  go_wp2
  go_loopw [0, 1] (fun s t wr => ∃ (x y : Int), 0 ≤ x ∧ x ≤ 9223372036854775807 ∧ 0 ≤ y ∧ y ≤ 9223372036854775807 ∧ Hid (Int.gcd x y = Int.gcd a b) ∧ s = .int .i64 x ∧ t = .int .i64 y ∧ Und w wr) (fun _ t _ => (intOf t).toNat)
  case atStart => exact ⟨a, b, ha, ha', hb, hb', rfl, rfl, rfl, Und.refl _⟩
  case round =>
    obtain ⟨x, y, hx, hx', hy, hy', hg, rfl, rfl, hU⟩ := hrel
    by_cases hlt : 0 < y
    · have h1 : 0 ≤ x % y := Int.emod_nonneg _ (by omega)
      have h2 : x % y < y := Int.emod_lt_of_pos _ hlt
      go_wp2
      go_quiet (fail)
      go_wp2
      exact ⟨⟨y, x % y, hy, hy', h1, by omega, (Rt.gcd_step x y hx hy).trans hg.out, rfl, rfl, hU.drewN _⟩, by simp [intOf]; omega⟩
    · go_wp2
      go_ret
      have h0 : y = 0 := by omega
      have := hg.out
      rw [h0, Int.gcd_zero_right] at this
      exact ⟨ret_int (by omega), hU⟩

set_option maxHeartbeats 400000 in
theorem gcd_any (a b : Int) (w : World) (ha : 0 ≤ a) (ha' : a ≤ 9223372036854775807) (hb : 0 ≤ b) (hb' : b ≤ 9223372036854775807) :
    Calls Tryd.prog 26 #[.int .i64 a, .int .i64 b] w fun e w' => e = .returned (.int .i64 (Int.gcd a b)) ∧ Und w w' := by
  go_enter Tryd.func26, Tryd.ntmps26
  go_wp2
  go_loopw [0, 1] (fun s t wr => ∃ (x y : Int), 0 ≤ x ∧ x ≤ 9223372036854775807 ∧ 0 ≤ y ∧ y ≤ 9223372036854775807 ∧ Hid (Int.gcd x y = Int.gcd a b) ∧ s = .int .i64 x ∧ t = .int .i64 y ∧ Und w wr) (fun _ t _ => (intOf t).toNat)
  case atStart => exact ⟨a, b, ha, ha', hb, hb', rfl, rfl, rfl, Und.refl _⟩
  case round =>
    obtain ⟨x, y, hx, hx', hy, hy', hg, rfl, rfl, hU⟩ := hrel
    by_cases hlt : 0 < y
    · have h1 : 0 ≤ x % y := Int.emod_nonneg _ (by omega)
      have h2 : x % y < y := Int.emod_lt_of_pos _ hlt
      have h3 : (y != 0) = true := by simp; omega
      go_wp2
      go_quiet (fail)
      go_wp2
      exact ⟨⟨y, x % y, hy, hy', h1, by omega, (Rt.gcd_step x y hx hy).trans hg.out, rfl, rfl, hU.drewN _⟩, by simp [intOf]; omega⟩
    · have h3 : (y != 0) = false := by simp; omega
      go_wp2
      go_ret
      have h0 : y = 0 := by omega
      have := hg.out
      rw [h0, Int.gcd_zero_right] at this
      exact ⟨ret_int (by omega), hU⟩

theorem magnitude_any (a : Int) (w : World) (ha : -9223372036854775807 ≤ a) (ha' : a ≤ 9223372036854775807) :
    Calls Tryd.prog 10 #[.int .i64 a] w fun e w' => e = .returned (.int .i64 (Rt.mag a)) ∧ Und w w' := by
  by_cases h : a < 0
  · go_enter Tryd.func10, Tryd.ntmps10
    go_wp2
    go_ret
    exact ⟨ret_int (by simp [Rt.mag, h]), Und.refl _⟩
  · go_enter Tryd.func10, Tryd.ntmps10
    go_wp2
    go_ret
    exact ⟨ret_int (by unfold Rt.mag; rw [if_neg (by omega)]), Und.refl _⟩

set_option maxHeartbeats 400000 in
theorem valid_any (n d : Int) (w : World) :
    Calls Tryd.prog 9 #[.agg #[.int .i64 n, .int .i64 d]] w fun e w' => e = .returned (.bool (Rt.vB n d)) ∧ Und w w' := by
  by_cases h : -1073741824 ≤ n ∧ n ≤ 1073741824 ∧ 1 ≤ d ∧ d ≤ 1073741824
  · obtain ⟨h1, h2, h3, h4⟩ := h
    have hm := Rt.mag_bd n
    go_enter Tryd.func9, Tryd.ntmps9
    go_wp2
    first | refine wp_region_under2 (by kernel_rfl) (by kernel_rfl) ?_ | refine wp_region_under (by kernel_rfl) (by kernel_rfl) ?_
    repeat (go_big_quiet_step (first | (go_at_call 10; exact Calls.under_of (magnitude_any _ _ (by omega) (by omega))) | (go_at_call 18; exact Calls.under_of (divisor_any _ _ _ (by omega) (by omega) (by omega) (by omega)))))
    refine wpQuiet_nil ?_
    rintro _ ⟨X, rfl⟩
    go_wp2
    go_ret
    exact ⟨ret_bool (Rt.vB_gcd h1 h2 h3 h4).symm, (by repeat (first | exact Und.refl _ | assumption | refine Und.under ?_ _ | refine Und.alloc ?_ _ | refine Und.drew ?_ | refine Und.drewN ?_ _))⟩
  · have hv : Rt.vB n d = false := Rt.vB_out h
    have Hv := hid hv
    clear hv
    go_enter Tryd.func9, Tryd.ntmps9
    by_cases h1 : n < -1073741824
    · clear h; go_wp2; go_ret; exact ⟨ret_bool Hv.out.symm, (by repeat (first | exact Und.refl _ | assumption | refine Und.under ?_ _ | refine Und.alloc ?_ _ | refine Und.drew ?_ | refine Und.drewN ?_ _))⟩
    by_cases h2 : 1073741824 < n
    · clear h; go_wp2; go_ret; exact ⟨ret_bool Hv.out.symm, (by repeat (first | exact Und.refl _ | assumption | refine Und.under ?_ _ | refine Und.alloc ?_ _ | refine Und.drew ?_ | refine Und.drewN ?_ _))⟩
    by_cases h3 : d < 1
    · clear h; go_wp2; go_ret; exact ⟨ret_bool Hv.out.symm, (by repeat (first | exact Und.refl _ | assumption | refine Und.under ?_ _ | refine Und.alloc ?_ _ | refine Und.drew ?_ | refine Und.drewN ?_ _))⟩
    have h4 : 1073741824 < d := by omega
    clear h; go_wp2; go_ret; exact ⟨ret_bool Hv.out.symm, (by repeat (first | exact Und.refl _ | assumption | refine Und.under ?_ _ | refine Und.alloc ?_ _ | refine Und.drew ?_ | refine Und.drewN ?_ _))⟩

set_option maxHeartbeats 400000 in
theorem rvalid_any (n d : Int) (w : World) :
    Calls Tryd.prog 13 #[.agg #[.int .i64 n, .int .i64 d]] w fun e w' => e = .returned (.bool (Rt.vB n d)) ∧ Und w w' := by
  by_cases h : -1073741824 ≤ n ∧ n ≤ 1073741824 ∧ 1 ≤ d ∧ d ≤ 1073741824
  · obtain ⟨h1, h2, h3, h4⟩ := h
    have hm := Rt.mag_bd n
    by_cases hn : n < 0
    all_goals
      go_enter Tryd.func13, Tryd.ntmps13
      go_wp2_with fail
      refine (gcd_any _ _ _ (by omega) (by omega) (by omega) (by omega)).mono ?_
      rintro e w' ⟨rfl, X, rfl⟩
      go_wp2
      go_ret
      exact ⟨ret_bool (by rw [Rt.vB_gcd h1 h2 h3 h4, Rt.gcd_mag]; try simp), (by repeat (first | exact Und.refl _ | assumption | refine Und.under ?_ _ | refine Und.alloc ?_ _ | refine Und.drew ?_ | refine Und.drewN ?_ _))⟩
  · have hv : Rt.vB n d = false := Rt.vB_out h
    have Hv := hid hv
    clear hv
    go_enter Tryd.func13, Tryd.ntmps13
    by_cases h1 : n < -1073741824
    · clear h; go_wp2; go_ret; exact ⟨ret_bool Hv.out.symm, (by repeat (first | exact Und.refl _ | assumption | refine Und.under ?_ _ | refine Und.alloc ?_ _ | refine Und.drew ?_ | refine Und.drewN ?_ _))⟩
    by_cases h2 : 1073741824 < n
    · clear h; go_wp2; go_ret; exact ⟨ret_bool Hv.out.symm, (by repeat (first | exact Und.refl _ | assumption | refine Und.under ?_ _ | refine Und.alloc ?_ _ | refine Und.drew ?_ | refine Und.drewN ?_ _))⟩
    by_cases h3 : d < 1
    · clear h; go_wp2; go_ret; exact ⟨ret_bool Hv.out.symm, (by repeat (first | exact Und.refl _ | assumption | refine Und.under ?_ _ | refine Und.alloc ?_ _ | refine Und.drew ?_ | refine Und.drewN ?_ _))⟩
    have h4 : 1073741824 < d := by omega
    clear h; go_wp2; go_ret; exact ⟨ret_bool Hv.out.symm, (by repeat (first | exact Und.refl _ | assumption | refine Und.under ?_ _ | refine Und.alloc ?_ _ | refine Und.drew ?_ | refine Und.drewN ?_ _))⟩

theorem divisor_is (a b g : Int) (w : World) (ha : 0 ≤ a) (ha' : a ≤ 9223372036854775807) (hb : 0 ≤ b) (hb' : b ≤ 9223372036854775807) (h : (Int.gcd a b : Int) = g) :
    Calls Tryd.prog 18 #[.int .i64 a, .int .i64 b] w fun e w' => e = .returned (.int .i64 g) ∧ Und w w' := h ▸ divisor_any a b w ha ha' hb hb'
theorem gcd_is (a b g : Int) (w : World) (ha : 0 ≤ a) (ha' : a ≤ 9223372036854775807) (hb : 0 ≤ b) (hb' : b ≤ 9223372036854775807) (h : (Int.gcd a b : Int) = g) :
    Calls Tryd.prog 26 #[.int .i64 a, .int .i64 b] w fun e w' => e = .returned (.int .i64 g) ∧ Und w w' := h ▸ gcd_any a b w ha ha' hb hb'

set_option maxHeartbeats 400000 in
theorem reduce_neg_ok (n d g : Int) (w : World) (h1 : -4611686018427387904 ≤ n) (h2 : n ≤ 4611686018427387904) (h3 : -4611686018427387904 ≤ d) (h4 : d ≤ 4611686018427387904) (_h0 : d ≠ 0) (hd : d < 0) (hg : Hid ((Int.gcd n d : Int) = g)) (hg1 : 1 ≤ g) (t1 : Rt.mag (-(n.tdiv g)) ≤ 1073741824) (t2 : (-(d.tdiv g)) ≤ 1073741824) :
    Calls Tryd.prog 28 #[.int .i64 n, .int .i64 d] w fun e w' => e = .returned (.tuple #[.agg #[.int .i64 (-(n.tdiv g)), .int .i64 (-(d.tdiv g))], .bool true]) ∧ Und w w' := by
  have hm := Rt.mag_bd (-n)
  have hmq := Rt.mag_bd (-(n.tdiv g))
  have hq := Rt.tdiv_bd n g 4611686018427387904 hg1 (by omega) (by omega)
  have hr := Rt.tdiv_bd d g 4611686018427387904 hg1 (by omega) (by omega)
  go_enter Tryd.func28, Tryd.ntmps28
  go_wp2_with (first | (go_at_call 10; refine (magnitude_any _ _ (by omega) (by omega)).mono ?_; rintro e w' ⟨rfl, X, rfl⟩) | (go_at_call 18; refine (divisor_is _ _ g _ (by omega) (by omega) (by omega) (by omega) (Rt.gcd_is_neg hg.out)).mono ?_; rintro e w' ⟨rfl, X, rfl⟩))
  first | refine wp_region_under2 (by kernel_rfl) (by kernel_rfl) ?_ | refine wp_region_under (by kernel_rfl) (by kernel_rfl) ?_
  repeat (go_big_quiet_step (first | (fail)))
  refine wpQuiet_nil ?_
  rintro _ ⟨X, rfl⟩
  go_wp2_with (go_at_call 10; refine (magnitude_any _ _ (by omega) (by omega)).mono ?_; rintro e w' ⟨rfl, X, rfl⟩)
  exact bodyPost_ret (v := .tuple #[.agg #[.int .i64 (-(n.tdiv g)), .int .i64 (-(d.tdiv g))], .bool true]) (by simp [results, Tryd.results28, go_sem]) rfl ⟨rfl, (by repeat (first | exact Und.refl _ | assumption | refine Und.under ?_ _ | refine Und.alloc ?_ _ | refine Und.drew ?_ | refine Und.drewN ?_ _))⟩

set_option maxHeartbeats 400000 in
theorem reduce_neg_n (n d g : Int) (w : World) (h1 : -4611686018427387904 ≤ n) (h2 : n ≤ 4611686018427387904) (h3 : -4611686018427387904 ≤ d) (h4 : d ≤ 4611686018427387904) (_h0 : d ≠ 0) (hd : d < 0) (hg : Hid ((Int.gcd n d : Int) = g)) (hg1 : 1 ≤ g) (t1 : 1073741824 < Rt.mag (-(n.tdiv g))) :
    Calls Tryd.prog 28 #[.int .i64 n, .int .i64 d] w fun e w' => e = .returned (.tuple #[.agg #[.int .i64 0, .int .i64 0], .bool false]) ∧ Und w w' := by
  have hm := Rt.mag_bd (-n)
  have hmq := Rt.mag_bd (-(n.tdiv g))
  have hq := Rt.tdiv_bd n g 4611686018427387904 hg1 (by omega) (by omega)
  have hr := Rt.tdiv_bd d g 4611686018427387904 hg1 (by omega) (by omega)
  go_enter Tryd.func28, Tryd.ntmps28
  go_wp2_with (first | (go_at_call 10; refine (magnitude_any _ _ (by omega) (by omega)).mono ?_; rintro e w' ⟨rfl, X, rfl⟩) | (go_at_call 18; refine (divisor_is _ _ g _ (by omega) (by omega) (by omega) (by omega) (Rt.gcd_is_neg hg.out)).mono ?_; rintro e w' ⟨rfl, X, rfl⟩))
  first | refine wp_region_under2 (by kernel_rfl) (by kernel_rfl) ?_ | refine wp_region_under (by kernel_rfl) (by kernel_rfl) ?_
  repeat (go_big_quiet_step (first | (fail)))
  refine wpQuiet_nil ?_
  rintro _ ⟨X, rfl⟩
  go_wp2_with (go_at_call 10; refine (magnitude_any _ _ (by omega) (by omega)).mono ?_; rintro e w' ⟨rfl, X, rfl⟩)
  exact bodyPost_ret (v := .tuple #[.agg #[.int .i64 0, .int .i64 0], .bool false]) (by simp [results, Tryd.results28, go_sem]) rfl ⟨rfl, (by repeat (first | exact Und.refl _ | assumption | refine Und.under ?_ _ | refine Und.alloc ?_ _ | refine Und.drew ?_ | refine Und.drewN ?_ _))⟩

set_option maxHeartbeats 400000 in
theorem reduce_neg_d (n d g : Int) (w : World) (h1 : -4611686018427387904 ≤ n) (h2 : n ≤ 4611686018427387904) (h3 : -4611686018427387904 ≤ d) (h4 : d ≤ 4611686018427387904) (_h0 : d ≠ 0) (hd : d < 0) (hg : Hid ((Int.gcd n d : Int) = g)) (hg1 : 1 ≤ g) (t1 : Rt.mag (-(n.tdiv g)) ≤ 1073741824) (t2 : 1073741824 < (-(d.tdiv g))) :
    Calls Tryd.prog 28 #[.int .i64 n, .int .i64 d] w fun e w' => e = .returned (.tuple #[.agg #[.int .i64 0, .int .i64 0], .bool false]) ∧ Und w w' := by
  have hm := Rt.mag_bd (-n)
  have hmq := Rt.mag_bd (-(n.tdiv g))
  have hq := Rt.tdiv_bd n g 4611686018427387904 hg1 (by omega) (by omega)
  have hr := Rt.tdiv_bd d g 4611686018427387904 hg1 (by omega) (by omega)
  go_enter Tryd.func28, Tryd.ntmps28
  go_wp2_with (first | (go_at_call 10; refine (magnitude_any _ _ (by omega) (by omega)).mono ?_; rintro e w' ⟨rfl, X, rfl⟩) | (go_at_call 18; refine (divisor_is _ _ g _ (by omega) (by omega) (by omega) (by omega) (Rt.gcd_is_neg hg.out)).mono ?_; rintro e w' ⟨rfl, X, rfl⟩))
  first | refine wp_region_under2 (by kernel_rfl) (by kernel_rfl) ?_ | refine wp_region_under (by kernel_rfl) (by kernel_rfl) ?_
  repeat (go_big_quiet_step (first | (fail)))
  refine wpQuiet_nil ?_
  rintro _ ⟨X, rfl⟩
  go_wp2_with (go_at_call 10; refine (magnitude_any _ _ (by omega) (by omega)).mono ?_; rintro e w' ⟨rfl, X, rfl⟩)
  exact bodyPost_ret (v := .tuple #[.agg #[.int .i64 0, .int .i64 0], .bool false]) (by simp [results, Tryd.results28, go_sem]) rfl ⟨rfl, (by repeat (first | exact Und.refl _ | assumption | refine Und.under ?_ _ | refine Und.alloc ?_ _ | refine Und.drew ?_ | refine Und.drewN ?_ _))⟩

set_option maxHeartbeats 400000 in
theorem reduce_pos_ok (n d g : Int) (w : World) (h1 : -4611686018427387904 ≤ n) (h2 : n ≤ 4611686018427387904) (h3 : -4611686018427387904 ≤ d) (h4 : d ≤ 4611686018427387904) (_h0 : d ≠ 0) (hd : ¬ d < 0) (hg : Hid ((Int.gcd n d : Int) = g)) (hg1 : 1 ≤ g) (t1 : Rt.mag (n.tdiv g) ≤ 1073741824) (t2 : (d / g) ≤ 1073741824) :
    Calls Tryd.prog 28 #[.int .i64 n, .int .i64 d] w fun e w' => e = .returned (.tuple #[.agg #[.int .i64 (n.tdiv g), .int .i64 (d / g)], .bool true]) ∧ Und w w' := by
  have hm := Rt.mag_bd n
  have hmq := Rt.mag_bd (n.tdiv g)
  have hq := Rt.tdiv_bd n g 4611686018427387904 hg1 (by omega) (by omega)
  have hr := Rt.ediv_bd d g 4611686018427387904 hg1 (by omega) (by omega)
  go_enter Tryd.func28, Tryd.ntmps28
  go_wp2_with (first | (go_at_call 10; refine (magnitude_any _ _ (by omega) (by omega)).mono ?_; rintro e w' ⟨rfl, X, rfl⟩) | (go_at_call 18; refine (divisor_is _ _ g _ (by omega) (by omega) (by omega) (by omega) (Rt.gcd_is hg.out)).mono ?_; rintro e w' ⟨rfl, X, rfl⟩))
  first | refine wp_region_under2 (by kernel_rfl) (by kernel_rfl) ?_ | refine wp_region_under (by kernel_rfl) (by kernel_rfl) ?_
  repeat (go_big_quiet_step (first | (fail)))
  refine wpQuiet_nil ?_
  rintro _ ⟨X, rfl⟩
  go_wp2_with (go_at_call 10; refine (magnitude_any _ _ (by omega) (by omega)).mono ?_; rintro e w' ⟨rfl, X, rfl⟩)
  exact bodyPost_ret (v := .tuple #[.agg #[.int .i64 (n.tdiv g), .int .i64 (d / g)], .bool true]) (by simp [results, Tryd.results28, go_sem]) rfl ⟨rfl, (by repeat (first | exact Und.refl _ | assumption | refine Und.under ?_ _ | refine Und.alloc ?_ _ | refine Und.drew ?_ | refine Und.drewN ?_ _))⟩

set_option maxHeartbeats 400000 in
theorem reduce_pos_n (n d g : Int) (w : World) (h1 : -4611686018427387904 ≤ n) (h2 : n ≤ 4611686018427387904) (h3 : -4611686018427387904 ≤ d) (h4 : d ≤ 4611686018427387904) (_h0 : d ≠ 0) (hd : ¬ d < 0) (hg : Hid ((Int.gcd n d : Int) = g)) (hg1 : 1 ≤ g) (t1 : 1073741824 < Rt.mag (n.tdiv g)) :
    Calls Tryd.prog 28 #[.int .i64 n, .int .i64 d] w fun e w' => e = .returned (.tuple #[.agg #[.int .i64 0, .int .i64 0], .bool false]) ∧ Und w w' := by
  have hm := Rt.mag_bd n
  have hmq := Rt.mag_bd (n.tdiv g)
  have hq := Rt.tdiv_bd n g 4611686018427387904 hg1 (by omega) (by omega)
  have hr := Rt.ediv_bd d g 4611686018427387904 hg1 (by omega) (by omega)
  go_enter Tryd.func28, Tryd.ntmps28
  go_wp2_with (first | (go_at_call 10; refine (magnitude_any _ _ (by omega) (by omega)).mono ?_; rintro e w' ⟨rfl, X, rfl⟩) | (go_at_call 18; refine (divisor_is _ _ g _ (by omega) (by omega) (by omega) (by omega) (Rt.gcd_is hg.out)).mono ?_; rintro e w' ⟨rfl, X, rfl⟩))
  first | refine wp_region_under2 (by kernel_rfl) (by kernel_rfl) ?_ | refine wp_region_under (by kernel_rfl) (by kernel_rfl) ?_
  repeat (go_big_quiet_step (first | (fail)))
  refine wpQuiet_nil ?_
  rintro _ ⟨X, rfl⟩
  go_wp2_with (go_at_call 10; refine (magnitude_any _ _ (by omega) (by omega)).mono ?_; rintro e w' ⟨rfl, X, rfl⟩)
  exact bodyPost_ret (v := .tuple #[.agg #[.int .i64 0, .int .i64 0], .bool false]) (by simp [results, Tryd.results28, go_sem]) rfl ⟨rfl, (by repeat (first | exact Und.refl _ | assumption | refine Und.under ?_ _ | refine Und.alloc ?_ _ | refine Und.drew ?_ | refine Und.drewN ?_ _))⟩

set_option maxHeartbeats 400000 in
theorem reduce_pos_d (n d g : Int) (w : World) (h1 : -4611686018427387904 ≤ n) (h2 : n ≤ 4611686018427387904) (h3 : -4611686018427387904 ≤ d) (h4 : d ≤ 4611686018427387904) (_h0 : d ≠ 0) (hd : ¬ d < 0) (hg : Hid ((Int.gcd n d : Int) = g)) (hg1 : 1 ≤ g) (t1 : Rt.mag (n.tdiv g) ≤ 1073741824) (t2 : 1073741824 < (d / g)) :
    Calls Tryd.prog 28 #[.int .i64 n, .int .i64 d] w fun e w' => e = .returned (.tuple #[.agg #[.int .i64 0, .int .i64 0], .bool false]) ∧ Und w w' := by
  have hm := Rt.mag_bd n
  have hmq := Rt.mag_bd (n.tdiv g)
  have hq := Rt.tdiv_bd n g 4611686018427387904 hg1 (by omega) (by omega)
  have hr := Rt.ediv_bd d g 4611686018427387904 hg1 (by omega) (by omega)
  go_enter Tryd.func28, Tryd.ntmps28
  go_wp2_with (first | (go_at_call 10; refine (magnitude_any _ _ (by omega) (by omega)).mono ?_; rintro e w' ⟨rfl, X, rfl⟩) | (go_at_call 18; refine (divisor_is _ _ g _ (by omega) (by omega) (by omega) (by omega) (Rt.gcd_is hg.out)).mono ?_; rintro e w' ⟨rfl, X, rfl⟩))
  first | refine wp_region_under2 (by kernel_rfl) (by kernel_rfl) ?_ | refine wp_region_under (by kernel_rfl) (by kernel_rfl) ?_
  repeat (go_big_quiet_step (first | (fail)))
  refine wpQuiet_nil ?_
  rintro _ ⟨X, rfl⟩
  go_wp2_with (go_at_call 10; refine (magnitude_any _ _ (by omega) (by omega)).mono ?_; rintro e w' ⟨rfl, X, rfl⟩)
  exact bodyPost_ret (v := .tuple #[.agg #[.int .i64 0, .int .i64 0], .bool false]) (by simp [results, Tryd.results28, go_sem]) rfl ⟨rfl, (by repeat (first | exact Und.refl _ | assumption | refine Und.under ?_ _ | refine Und.alloc ?_ _ | refine Und.drew ?_ | refine Und.drewN ?_ _))⟩

set_option maxHeartbeats 400000 in
theorem reduced_neg_ok (n d g : Int) (w : World) (h1 : -4611686018427387904 ≤ n) (h2 : n ≤ 4611686018427387904) (h3 : -4611686018427387904 ≤ d) (h4 : d ≤ 4611686018427387904) (_h0 : d ≠ 0) (hd : d < 0) (hg : Hid ((Int.gcd n d : Int) = g)) (hg1 : 1 ≤ g) (t1 : Rt.mag (-(n.tdiv g)) ≤ 1073741824) (t2 : (-(d.tdiv g)) ≤ 1073741824) :
    Calls Tryd.prog 27 #[.int .i64 n, .int .i64 d] w fun e w' => e = .returned (.tuple #[.agg #[.int .i64 (-(n.tdiv g)), .int .i64 (-(d.tdiv g))], .bool true]) ∧ Und w w' := by
  have hm := Rt.mag_bd (-n)
  have hmq := Rt.mag_bd (-(n.tdiv g))
  have hq := Rt.tdiv_bd n g 4611686018427387904 hg1 (by omega) (by omega)
  have hr := Rt.tdiv_bd d g 4611686018427387904 hg1 (by omega) (by omega)
  by_cases hn : n ≤ 0
  all_goals
    go_enter Tryd.func27, Tryd.ntmps27
    go_wp2_with (go_at_call 26; refine (gcd_is _ _ g _ (by omega) (by omega) (by omega) (by omega) ?hgg).mono ?_; rotate_left; rintro e w' ⟨rfl, X, rfl⟩)
    case hgg => first | (simpa using hg.out)
    first | refine wp_region_under2 (by kernel_rfl) (by kernel_rfl) ?_ | refine wp_region_under (by kernel_rfl) (by kernel_rfl) ?_
    repeat (go_big_quiet_step (first | (fail)))
    refine wpQuiet_nil ?_
    rintro _ ⟨X, rfl⟩
    go_wp2
    exact bodyPost_ret (v := .tuple #[.agg #[.int .i64 (-(n.tdiv g)), .int .i64 (-(d.tdiv g))], .bool true]) (by simp [results, Tryd.results27, go_sem]) rfl ⟨rfl, (by repeat (first | exact Und.refl _ | assumption | refine Und.under ?_ _ | refine Und.alloc ?_ _ | refine Und.drew ?_ | refine Und.drewN ?_ _))⟩

set_option maxHeartbeats 400000 in
theorem reduced_neg_n (n d g : Int) (w : World) (h1 : -4611686018427387904 ≤ n) (h2 : n ≤ 4611686018427387904) (h3 : -4611686018427387904 ≤ d) (h4 : d ≤ 4611686018427387904) (_h0 : d ≠ 0) (hd : d < 0) (hg : Hid ((Int.gcd n d : Int) = g)) (hg1 : 1 ≤ g) (t1 : 1073741824 < Rt.mag (-(n.tdiv g))) :
    Calls Tryd.prog 27 #[.int .i64 n, .int .i64 d] w fun e w' => e = .returned (.tuple #[.agg #[.int .i64 0, .int .i64 0], .bool false]) ∧ Und w w' := by
  have hm := Rt.mag_bd (-n)
  have hmq := Rt.mag_bd (-(n.tdiv g))
  have hq := Rt.tdiv_bd n g 4611686018427387904 hg1 (by omega) (by omega)
  have hr := Rt.tdiv_bd d g 4611686018427387904 hg1 (by omega) (by omega)
  by_cases hn : n ≤ 0
  all_goals by_cases t3 : (-(n.tdiv g)) < -1073741824
  all_goals
    go_enter Tryd.func27, Tryd.ntmps27
    go_wp2_with (go_at_call 26; refine (gcd_is _ _ g _ (by omega) (by omega) (by omega) (by omega) ?hgg).mono ?_; rotate_left; rintro e w' ⟨rfl, X, rfl⟩)
    case hgg => first | (simpa using hg.out)
    first | refine wp_region_under2 (by kernel_rfl) (by kernel_rfl) ?_ | refine wp_region_under (by kernel_rfl) (by kernel_rfl) ?_
    repeat (go_big_quiet_step (first | (fail)))
    refine wpQuiet_nil ?_
    rintro _ ⟨X, rfl⟩
    go_wp2
    exact bodyPost_ret (v := .tuple #[.agg #[.int .i64 0, .int .i64 0], .bool false]) (by simp [results, Tryd.results27, go_sem]) rfl ⟨rfl, (by repeat (first | exact Und.refl _ | assumption | refine Und.under ?_ _ | refine Und.alloc ?_ _ | refine Und.drew ?_ | refine Und.drewN ?_ _))⟩

set_option maxHeartbeats 400000 in
theorem reduced_neg_d (n d g : Int) (w : World) (h1 : -4611686018427387904 ≤ n) (h2 : n ≤ 4611686018427387904) (h3 : -4611686018427387904 ≤ d) (h4 : d ≤ 4611686018427387904) (_h0 : d ≠ 0) (hd : d < 0) (hg : Hid ((Int.gcd n d : Int) = g)) (hg1 : 1 ≤ g) (t1 : Rt.mag (-(n.tdiv g)) ≤ 1073741824) (t2 : 1073741824 < (-(d.tdiv g))) :
    Calls Tryd.prog 27 #[.int .i64 n, .int .i64 d] w fun e w' => e = .returned (.tuple #[.agg #[.int .i64 0, .int .i64 0], .bool false]) ∧ Und w w' := by
  have hm := Rt.mag_bd (-n)
  have hmq := Rt.mag_bd (-(n.tdiv g))
  have hq := Rt.tdiv_bd n g 4611686018427387904 hg1 (by omega) (by omega)
  have hr := Rt.tdiv_bd d g 4611686018427387904 hg1 (by omega) (by omega)
  by_cases hn : n ≤ 0
  all_goals
    go_enter Tryd.func27, Tryd.ntmps27
    go_wp2_with (go_at_call 26; refine (gcd_is _ _ g _ (by omega) (by omega) (by omega) (by omega) ?hgg).mono ?_; rotate_left; rintro e w' ⟨rfl, X, rfl⟩)
    case hgg => first | (simpa using hg.out)
    first | refine wp_region_under2 (by kernel_rfl) (by kernel_rfl) ?_ | refine wp_region_under (by kernel_rfl) (by kernel_rfl) ?_
    repeat (go_big_quiet_step (first | (fail)))
    refine wpQuiet_nil ?_
    rintro _ ⟨X, rfl⟩
    go_wp2
    exact bodyPost_ret (v := .tuple #[.agg #[.int .i64 0, .int .i64 0], .bool false]) (by simp [results, Tryd.results27, go_sem]) rfl ⟨rfl, (by repeat (first | exact Und.refl _ | assumption | refine Und.under ?_ _ | refine Und.alloc ?_ _ | refine Und.drew ?_ | refine Und.drewN ?_ _))⟩

set_option maxHeartbeats 400000 in
theorem reduced_pos_ok (n d g : Int) (w : World) (h1 : -4611686018427387904 ≤ n) (h2 : n ≤ 4611686018427387904) (h3 : -4611686018427387904 ≤ d) (h4 : d ≤ 4611686018427387904) (_h0 : d ≠ 0) (hd : ¬ d < 0) (hg : Hid ((Int.gcd n d : Int) = g)) (hg1 : 1 ≤ g) (t1 : Rt.mag (n.tdiv g) ≤ 1073741824) (t2 : (d / g) ≤ 1073741824) :
    Calls Tryd.prog 27 #[.int .i64 n, .int .i64 d] w fun e w' => e = .returned (.tuple #[.agg #[.int .i64 (n.tdiv g), .int .i64 (d / g)], .bool true]) ∧ Und w w' := by
  have hm := Rt.mag_bd n
  have hmq := Rt.mag_bd (n.tdiv g)
  have hq := Rt.tdiv_bd n g 4611686018427387904 hg1 (by omega) (by omega)
  have hr := Rt.ediv_bd d g 4611686018427387904 hg1 (by omega) (by omega)
  by_cases hn : n < 0
  all_goals
    go_enter Tryd.func27, Tryd.ntmps27
    go_wp2_with (go_at_call 26; refine (gcd_is _ _ g _ (by omega) (by omega) (by omega) (by omega) ?hgg).mono ?_; rotate_left; rintro e w' ⟨rfl, X, rfl⟩)
    case hgg => first | (simpa using hg.out)
    first | refine wp_region_under2 (by kernel_rfl) (by kernel_rfl) ?_ | refine wp_region_under (by kernel_rfl) (by kernel_rfl) ?_
    repeat (go_big_quiet_step (first | (fail)))
    refine wpQuiet_nil ?_
    rintro _ ⟨X, rfl⟩
    go_wp2
    exact bodyPost_ret (v := .tuple #[.agg #[.int .i64 (n.tdiv g), .int .i64 (d / g)], .bool true]) (by simp [results, Tryd.results27, go_sem]) rfl ⟨rfl, (by repeat (first | exact Und.refl _ | assumption | refine Und.under ?_ _ | refine Und.alloc ?_ _ | refine Und.drew ?_ | refine Und.drewN ?_ _))⟩

set_option maxHeartbeats 400000 in
theorem reduced_pos_n (n d g : Int) (w : World) (h1 : -4611686018427387904 ≤ n) (h2 : n ≤ 4611686018427387904) (h3 : -4611686018427387904 ≤ d) (h4 : d ≤ 4611686018427387904) (_h0 : d ≠ 0) (hd : ¬ d < 0) (hg : Hid ((Int.gcd n d : Int) = g)) (hg1 : 1 ≤ g) (t1 : 1073741824 < Rt.mag (n.tdiv g)) :
    Calls Tryd.prog 27 #[.int .i64 n, .int .i64 d] w fun e w' => e = .returned (.tuple #[.agg #[.int .i64 0, .int .i64 0], .bool false]) ∧ Und w w' := by
  have hm := Rt.mag_bd n
  have hmq := Rt.mag_bd (n.tdiv g)
  have hq := Rt.tdiv_bd n g 4611686018427387904 hg1 (by omega) (by omega)
  have hr := Rt.ediv_bd d g 4611686018427387904 hg1 (by omega) (by omega)
  by_cases hn : n < 0
  all_goals by_cases t3 : (n.tdiv g) < -1073741824
  all_goals
    go_enter Tryd.func27, Tryd.ntmps27
    go_wp2_with (go_at_call 26; refine (gcd_is _ _ g _ (by omega) (by omega) (by omega) (by omega) ?hgg).mono ?_; rotate_left; rintro e w' ⟨rfl, X, rfl⟩)
    case hgg => first | (simpa using hg.out)
    first | refine wp_region_under2 (by kernel_rfl) (by kernel_rfl) ?_ | refine wp_region_under (by kernel_rfl) (by kernel_rfl) ?_
    repeat (go_big_quiet_step (first | (fail)))
    refine wpQuiet_nil ?_
    rintro _ ⟨X, rfl⟩
    go_wp2
    exact bodyPost_ret (v := .tuple #[.agg #[.int .i64 0, .int .i64 0], .bool false]) (by simp [results, Tryd.results27, go_sem]) rfl ⟨rfl, (by repeat (first | exact Und.refl _ | assumption | refine Und.under ?_ _ | refine Und.alloc ?_ _ | refine Und.drew ?_ | refine Und.drewN ?_ _))⟩

set_option maxHeartbeats 400000 in
theorem reduced_pos_d (n d g : Int) (w : World) (h1 : -4611686018427387904 ≤ n) (h2 : n ≤ 4611686018427387904) (h3 : -4611686018427387904 ≤ d) (h4 : d ≤ 4611686018427387904) (_h0 : d ≠ 0) (hd : ¬ d < 0) (hg : Hid ((Int.gcd n d : Int) = g)) (hg1 : 1 ≤ g) (t1 : Rt.mag (n.tdiv g) ≤ 1073741824) (t2 : 1073741824 < (d / g)) :
    Calls Tryd.prog 27 #[.int .i64 n, .int .i64 d] w fun e w' => e = .returned (.tuple #[.agg #[.int .i64 0, .int .i64 0], .bool false]) ∧ Und w w' := by
  have hm := Rt.mag_bd n
  have hmq := Rt.mag_bd (n.tdiv g)
  have hq := Rt.tdiv_bd n g 4611686018427387904 hg1 (by omega) (by omega)
  have hr := Rt.ediv_bd d g 4611686018427387904 hg1 (by omega) (by omega)
  by_cases hn : n < 0
  all_goals
    go_enter Tryd.func27, Tryd.ntmps27
    go_wp2_with (go_at_call 26; refine (gcd_is _ _ g _ (by omega) (by omega) (by omega) (by omega) ?hgg).mono ?_; rotate_left; rintro e w' ⟨rfl, X, rfl⟩)
    case hgg => first | (simpa using hg.out)
    first | refine wp_region_under2 (by kernel_rfl) (by kernel_rfl) ?_ | refine wp_region_under (by kernel_rfl) (by kernel_rfl) ?_
    repeat (go_big_quiet_step (first | (fail)))
    refine wpQuiet_nil ?_
    rintro _ ⟨X, rfl⟩
    go_wp2
    exact bodyPost_ret (v := .tuple #[.agg #[.int .i64 0, .int .i64 0], .bool false]) (by simp [results, Tryd.results27, go_sem]) rfl ⟨rfl, (by repeat (first | exact Und.refl _ | assumption | refine Und.under ?_ _ | refine Und.alloc ?_ _ | refine Und.drew ?_ | refine Und.drewN ?_ _))⟩

end Go.Proofs.YtoalkjfdddjjaaaDoor
