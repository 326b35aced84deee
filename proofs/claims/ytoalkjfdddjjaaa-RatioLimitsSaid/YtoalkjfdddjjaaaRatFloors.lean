/- The law RatioFloors: Floor returns the greatest integer that is at most the product. No conditions. -/
import Derived.Test.YtoalkjfdddjjaaaRatQ
import Derived.Outline
namespace Go.Proofs.Ytoalkjfdddjjaaa
open Go.RowKit

theorem floor_q {x : Rat} {k f : Int} (h : Rt.okR x = true ∧ -1073741824 ≤ k ∧ k ≤ 1073741824 ∧ x.num * k / x.den = f) (w : World) :
    Calls Try.prog 23 #[.agg #[.int .i64 x.num, .int .i64 x.den], .int .i64 k] w fun e w' => e = .returned (.tuple #[.int .i64 f, .bool true]) ∧ Und w w' := by
  obtain ⟨hx, h1, h2, rfl⟩ := h
  exact floor_yes _ _ _ w (hid (Rt.vB_of x hx)) h1 h2
theorem floor_o (a b k : Int) (n : Int) (t : Bool) (h : Rt.flV (Rt.floorS a b k) = .tuple #[.int .i64 n, .bool t]) (w : World) : Calls Try.prog 23 #[.agg #[.int .i64 a, .int .i64 b], .int .i64 k] w fun e w' => e = .returned (.tuple #[.int .i64 n, .bool t]) ∧ Und w w' := h ▸ floor_any a b k w
theorem rfloor_o (a b k : Int) (n : Int) (t : Bool) (h : Rt.flV (Rt.floorS a b k) = .tuple #[.int .i64 n, .bool t]) (w : World) : Calls Try.prog 24 #[.agg #[.int .i64 a, .int .i64 b], .int .i64 k] w fun e w' => e = .returned (.tuple #[.int .i64 n, .bool t]) ∧ Und w w' := h ▸ rfloor_any a b k w

set_option maxRecDepth 100000 in
set_option maxHeartbeats 1600000 in
theorem floors_core (r0 r1 a b c k f n N D : Int) (t : Bool) (x : Rat) (w : World) (hx : SomeIs a b 1048576 x) (hr : Hid (Rt.flV (Rt.floorS r0 r1 c) = .tuple #[.int .i64 n, .bool t]))
    (hk : c.tmod 1048576 = k) (hf : Hid (Rt.okR x = true ∧ -1073741824 ≤ k ∧ k ≤ 1073741824 ∧ x.num * k / x.den = f))
    (k1 : -1048575 ≤ k) (k2 : k ≤ 1048575) (hN : x.num = N) (hD : (x.den : Int) = D) (f1 : -1099511627776 ≤ f) (f2 : f ≤ 1099511627776) (p1 : -1152921504606846976 ≤ N * k) (p2 : N * k ≤ 1152921504606846976) (p3 : -1152921504606846976 ≤ f * D) (p4 : f * D ≤ N * k) (p5 : N * k < (f + 1) * D) (p6 : (f + 1) * D ≤ 2305843009213693952) :
    Calls Try.prog 8 #[.agg #[.int .i64 r0, .int .i64 r1], .int .i64 a, .int .i64 b, .int .i64 c] w fun e w' => e = .returned (.bool true) ∧ Und w w' := by
  go_enter Try.func8, Try.ntmps8
  go_wp2_with fail
  refine (floor_o _ _ _ n t hr.out _).mono ?_; rintro e w' ⟨rfl, X1, rfl⟩
  go_wp2_with fail
  refine (rfloor_o _ _ _ n t hr.out _).mono ?_; rintro e w' ⟨rfl, X2, rfl⟩
  go_wp2_with fail
  refine (some_q hx _).mono ?_; rintro e w' ⟨rfl, X3, rfl⟩
  have hfl := fun W => floor_q (x := x) (k := k) (f := f) hf.out W
  rw [hN, hD] at hfl
  have HF := hid hfl
  clear hfl
  rw [hN, hD]
  clear hN hD
  go_wp2_with fail
  refine (HF.out _).mono ?_; rintro e w' ⟨rfl, X4, rfl⟩
  clear HF
  go_wp2_with (go_at_call 16; refine (known_any _).mono ?_; rintro e w' ⟨rfl, X14, rfl⟩)
  go_ret
  exact ⟨rfl, (by repeat (first | exact Und.refl _ | assumption | refine Und.under ?_ _ | refine Und.alloc ?_ _ | refine Und.drew ?_ | refine Und.drewN ?_ _))⟩

theorem floors_any (r0 r1 a b c : Int) (w : World) : Calls Try.prog 8 #[.agg #[.int .i64 r0, .int .i64 r1], .int .i64 a, .int .i64 b, .int .i64 c] w fun e w' => e = .returned (.bool true) ∧ Und w w' := by
  have sx := Rt.someR_sm a b 1048576 (by omega)
  have ox := sx.ok (by omega) (by omega)
  obtain ⟨x, hx⟩ : ∃ x, Rt.someR a b 1048576 = x := ⟨_, rfl⟩
  rw [hx] at sx ox
  obtain ⟨N1, N2, D1, D2⟩ := sx.bd
  have hk := Rt.tmod_bd c 1048576 (by omega)
  obtain ⟨k, ek⟩ : ∃ k, c.tmod 1048576 = k := ⟨_, rfl⟩
  obtain ⟨N, eN⟩ : ∃ N, x.num = N := ⟨_, rfl⟩
  obtain ⟨D, eD⟩ : ∃ D : Int, (x.den : Int) = D := ⟨_, rfl⟩
  obtain ⟨f, ef⟩ : ∃ f, N * k / D = f := ⟨_, rfl⟩
  rw [ek] at hk
  rw [eN] at N1 N2
  rw [eD] at D1 D2
  have q1 := Rt.mul_bd N k 1048575 1048575 (by omega) (by omega) (by omega) (by omega)
  have q2 := (Int.ediv_eq_iff_of_pos (k := D) (x := N * k) (y := f) (by omega)).1 ef
  have q3 := Int.ediv_le_ediv (c := D) (by omega) q1.2
  have q4 := Int.ediv_le_ediv (c := D) (by omega) q1.1
  have q5 := Rt.ediv_bd (1048575 * 1048575) D (1048575 * 1048575) D1 (by omega) (by omega)
  have q6 : -(1048575 * 1048575) ≤ -(1048575 * 1048575 : Int) / D := by
    rw [Int.le_ediv_iff_mul_le (by omega)]
    have := Int.mul_le_mul_of_nonpos_left (a := -(1048575 * 1048575)) (b := D) (c := 1) (by omega) (by omega)
    omega
  have q7 : (f + 1) * D = f * D + D := by rw [Int.add_mul, Int.one_mul]
  exact floors_core r0 r1 a b c k f (Rt.flN (Rt.floorS r0 r1 c)) N D (Rt.floorS r0 r1 c).isSome x w ⟨by omega, by omega, hx⟩ (hid rfl) ek (hid ⟨ox, by omega, by omega, by rw [eN, eD]; exact ef⟩) (by omega) (by omega) eN eD (by omega) (by omega) (by omega) (by omega) (by omega) (by omega) (by omega) (by omega)
end Go.Proofs.Ytoalkjfdddjjaaa
