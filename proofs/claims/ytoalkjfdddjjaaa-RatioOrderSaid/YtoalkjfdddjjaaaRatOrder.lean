/- The law RatioOrder: Compare is a total order that agrees with subtraction and is kept by addition. No conditions. -/
import Derived.Test.YtoalkjfdddjjaaaRatEq
import Derived.Outline
namespace Go.Proofs.Ytoalkjfdddjjaaa
open Go.RowKit

theorem cmp_o {x : Rat} {k : Int} (h : CmpIs x 0 k) (w : World) : Calls Try.prog 25 #[.agg #[.int .i64 x.num, .int .i64 x.den], .agg #[.int .i64 0, .int .i64 1]] w fun e w' => e = .returned (.int .i64 k) ∧ Und w w' := cmp_q h w

set_option maxRecDepth 100000 in
set_option maxHeartbeats 4000000 in
theorem order_lt1 (a b c d e f : Int) (x y z t p q : Rat) (w : World) (hx : SomeIs a b 900 x) (hy : SomeIs c d 900 y) (hz : SomeIs e f 900 z)
    (h1 : CmpIs x y (-1)) (h2 : CmpIs y x (1)) (hne : eqP x.num x.den y.num y.den = false) (h4 : SubIs x y t) (h5 : AddIs x z p) (h6 : AddIs y z q) (h7 : CmpIs t 0 (-1)) (h8 : CmpIs p q (-1)) (h9 : CmpIs y z (-1)) (h10 : CmpIs x z (-1)) :
    Calls Try.prog 9 #[.int .i64 a, .int .i64 b, .int .i64 c, .int .i64 d, .int .i64 e, .int .i64 f] w fun e w' => e = .returned (.bool true) ∧ Und w w' := by
  go_enter Try.func9, Try.ntmps9
  go_wp2_with fail
  refine (some_q hx _).mono ?_; rintro e w' ⟨rfl, X1, rfl⟩
  go_wp2_with fail
  refine (some_q hy _).mono ?_; rintro e w' ⟨rfl, X2, rfl⟩
  go_wp2_with fail
  refine (some_q hz _).mono ?_; rintro e w' ⟨rfl, X3, rfl⟩
  go_wp2_with fail
  refine (cmp_q h1 _).mono ?_; rintro e w' ⟨rfl, X4, rfl⟩
  go_wp2_with fail
  refine (cmp_q h2 _).mono ?_; rintro e w' ⟨rfl, X5, rfl⟩
  go_wp2_with fail
  refine (cmp_q h9 _).mono ?_; rintro e w' ⟨rfl, X, rfl⟩
  go_wp2_with fail
  refine (cmp_q h10 _).mono ?_; rintro e w' ⟨rfl, X, rfl⟩
  go_wp2_with fail
  refine (sub_q h4 _).mono ?_; rintro e w' ⟨rfl, X6, rfl⟩
  go_wp2_with fail
  refine (add_q h5 _).mono ?_; rintro e w' ⟨rfl, X7, rfl⟩
  go_wp2_with fail
  refine (add_q h6 _).mono ?_; rintro e w' ⟨rfl, X8, rfl⟩
  go_wp2_with fail
  refine (cmp_o h7 _).mono ?_; rintro e w' ⟨rfl, X9, rfl⟩
  go_wp2_with fail
  refine (cmp_q h8 _).mono ?_; rintro e w' ⟨rfl, X10, rfl⟩
  go_wp2_with (go_at_call 16; refine (known_any _).mono ?_; rintro e w' ⟨rfl, X14, rfl⟩)
  go_ret
  exact ⟨rfl, (by repeat (first | exact Und.refl _ | assumption | refine Und.under ?_ _ | refine Und.alloc ?_ _ | refine Und.drew ?_ | refine Und.drewN ?_ _))⟩

set_option maxRecDepth 100000 in
set_option maxHeartbeats 4000000 in
theorem order_lt2 (a b c d e f : Int) (x y z t p q : Rat) (w : World) (hx : SomeIs a b 900 x) (hy : SomeIs c d 900 y) (hz : SomeIs e f 900 z)
    (h1 : CmpIs x y (-1)) (h2 : CmpIs y x (1)) (hne : eqP x.num x.den y.num y.den = false) (h4 : SubIs x y t) (h5 : AddIs x z p) (h6 : AddIs y z q) (h7 : CmpIs t 0 (-1)) (h8 : CmpIs p q (-1)) (k : Int) (hk : 0 ≤ k) (h9 : CmpIs y z k) :
    Calls Try.prog 9 #[.int .i64 a, .int .i64 b, .int .i64 c, .int .i64 d, .int .i64 e, .int .i64 f] w fun e w' => e = .returned (.bool true) ∧ Und w w' := by
  go_enter Try.func9, Try.ntmps9
  go_wp2_with fail
  refine (some_q hx _).mono ?_; rintro e w' ⟨rfl, X1, rfl⟩
  go_wp2_with fail
  refine (some_q hy _).mono ?_; rintro e w' ⟨rfl, X2, rfl⟩
  go_wp2_with fail
  refine (some_q hz _).mono ?_; rintro e w' ⟨rfl, X3, rfl⟩
  go_wp2_with fail
  refine (cmp_q h1 _).mono ?_; rintro e w' ⟨rfl, X4, rfl⟩
  go_wp2_with fail
  refine (cmp_q h2 _).mono ?_; rintro e w' ⟨rfl, X5, rfl⟩
  go_wp2_with fail
  refine (cmp_q h9 _).mono ?_; rintro e w' ⟨rfl, X, rfl⟩
  go_wp2_with fail
  refine (sub_q h4 _).mono ?_; rintro e w' ⟨rfl, X6, rfl⟩
  go_wp2_with fail
  refine (add_q h5 _).mono ?_; rintro e w' ⟨rfl, X7, rfl⟩
  go_wp2_with fail
  refine (add_q h6 _).mono ?_; rintro e w' ⟨rfl, X8, rfl⟩
  go_wp2_with fail
  refine (cmp_o h7 _).mono ?_; rintro e w' ⟨rfl, X9, rfl⟩
  go_wp2_with fail
  refine (cmp_q h8 _).mono ?_; rintro e w' ⟨rfl, X10, rfl⟩
  go_wp2_with (go_at_call 16; refine (known_any _).mono ?_; rintro e w' ⟨rfl, X14, rfl⟩)
  go_ret
  exact ⟨rfl, (by repeat (first | exact Und.refl _ | assumption | refine Und.under ?_ _ | refine Und.alloc ?_ _ | refine Und.drew ?_ | refine Und.drewN ?_ _))⟩

set_option maxRecDepth 100000 in
set_option maxHeartbeats 4000000 in
theorem order_gt (a b c d e f : Int) (x y z t p q : Rat) (w : World) (hx : SomeIs a b 900 x) (hy : SomeIs c d 900 y) (hz : SomeIs e f 900 z)
    (h1 : CmpIs x y (1)) (h2 : CmpIs y x (-1)) (hne : eqP x.num x.den y.num y.den = false) (h4 : SubIs x y t) (h5 : AddIs x z p) (h6 : AddIs y z q) (h7 : CmpIs t 0 (1)) (h8 : CmpIs p q (1)) :
    Calls Try.prog 9 #[.int .i64 a, .int .i64 b, .int .i64 c, .int .i64 d, .int .i64 e, .int .i64 f] w fun e w' => e = .returned (.bool true) ∧ Und w w' := by
  go_enter Try.func9, Try.ntmps9
  go_wp2_with fail
  refine (some_q hx _).mono ?_; rintro e w' ⟨rfl, X1, rfl⟩
  go_wp2_with fail
  refine (some_q hy _).mono ?_; rintro e w' ⟨rfl, X2, rfl⟩
  go_wp2_with fail
  refine (some_q hz _).mono ?_; rintro e w' ⟨rfl, X3, rfl⟩
  go_wp2_with fail
  refine (cmp_q h1 _).mono ?_; rintro e w' ⟨rfl, X4, rfl⟩
  go_wp2_with fail
  refine (cmp_q h2 _).mono ?_; rintro e w' ⟨rfl, X5, rfl⟩
  go_wp2_with fail
  refine (sub_q h4 _).mono ?_; rintro e w' ⟨rfl, X6, rfl⟩
  go_wp2_with fail
  refine (add_q h5 _).mono ?_; rintro e w' ⟨rfl, X7, rfl⟩
  go_wp2_with fail
  refine (add_q h6 _).mono ?_; rintro e w' ⟨rfl, X8, rfl⟩
  go_wp2_with fail
  refine (cmp_o h7 _).mono ?_; rintro e w' ⟨rfl, X9, rfl⟩
  go_wp2_with fail
  refine (cmp_q h8 _).mono ?_; rintro e w' ⟨rfl, X10, rfl⟩
  go_wp2_with (go_at_call 16; refine (known_any _).mono ?_; rintro e w' ⟨rfl, X14, rfl⟩)
  go_ret
  exact ⟨rfl, (by repeat (first | exact Und.refl _ | assumption | refine Und.under ?_ _ | refine Und.alloc ?_ _ | refine Und.drew ?_ | refine Und.drewN ?_ _))⟩

set_option maxRecDepth 100000 in
set_option maxHeartbeats 4000000 in
theorem order_eq (a b c d e f : Int) (x z t p : Rat) (w : World) (hx : SomeIs a b 900 x) (hy : SomeIs c d 900 x) (hz : SomeIs e f 900 z)
    (h1 : CmpIs x x (0)) (h4 : SubIs x x t) (h5 : AddIs x z p) (h7 : CmpIs t 0 (0)) (h8 : CmpIs p p (0)) :
    Calls Try.prog 9 #[.int .i64 a, .int .i64 b, .int .i64 c, .int .i64 d, .int .i64 e, .int .i64 f] w fun e w' => e = .returned (.bool true) ∧ Und w w' := by
  go_enter Try.func9, Try.ntmps9
  go_wp2_with fail
  refine (some_q hx _).mono ?_; rintro e w' ⟨rfl, X1, rfl⟩
  go_wp2_with fail
  refine (some_q hy _).mono ?_; rintro e w' ⟨rfl, X2, rfl⟩
  go_wp2_with fail
  refine (some_q hz _).mono ?_; rintro e w' ⟨rfl, X3, rfl⟩
  go_wp2_with fail
  refine (cmp_q h1 _).mono ?_; rintro e w' ⟨rfl, X4, rfl⟩
  go_wp2_with fail
  refine (cmp_q h1 _).mono ?_; rintro e w' ⟨rfl, X5, rfl⟩
  go_wp2_with fail
  refine (sub_q h4 _).mono ?_; rintro e w' ⟨rfl, X6, rfl⟩
  go_wp2_with fail
  refine (add_q h5 _).mono ?_; rintro e w' ⟨rfl, X7, rfl⟩
  go_wp2_with fail
  refine (add_q h5 _).mono ?_; rintro e w' ⟨rfl, X8, rfl⟩
  go_wp2_with fail
  refine (cmp_o h7 _).mono ?_; rintro e w' ⟨rfl, X9, rfl⟩
  go_wp2_with fail
  refine (cmp_q h8 _).mono ?_; rintro e w' ⟨rfl, X10, rfl⟩
  go_wp2_with (go_at_call 16; refine (known_any _).mono ?_; rintro e w' ⟨rfl, X14, rfl⟩)
  go_ret
  exact ⟨rfl, (by repeat (first | exact Und.refl _ | assumption | refine Und.under ?_ _ | refine Und.alloc ?_ _ | refine Und.drew ?_ | refine Und.drewN ?_ _))⟩


theorem Rt.cmp_lt {x y : Rat} (h : x < y) : Rt.cmpQ x y = -1 := by unfold Rt.cmpQ; rw [if_pos h]
theorem Rt.cmp_gt {x y : Rat} (h : y < x) : Rt.cmpQ x y = 1 := by unfold Rt.cmpQ; rw [if_neg (Rat.not_lt.2 (Rat.le_of_lt h)), if_pos h]
theorem Rt.cmp_eq (x : Rat) : Rt.cmpQ x x = 0 := by unfold Rt.cmpQ; rw [if_neg Rat.lt_irrefl, if_neg Rat.lt_irrefl]
theorem Rt.cmp_ge {x y : Rat} (h : ¬ x < y) : 0 ≤ Rt.cmpQ x y := by unfold Rt.cmpQ; rw [if_neg h]; split <;> omega
theorem Rt.add_lt {x y : Rat} (z : Rat) (h : x < y) : x + z < y + z := by rw [Rat.add_comm x, Rat.add_comm y]; exact Rat.add_lt_add_left.2 h
theorem Rt.sub_lt0 {x y : Rat} (h : x < y) : x - y < 0 := by
  have := Rt.add_lt (-y) h
  rwa [← Rat.sub_eq_add_neg, Rat.add_neg_cancel] at this
theorem Rt.sub_gt0 {x y : Rat} (h : y < x) : 0 < x - y := by
  have := Rt.add_lt (-y) h
  rwa [Rat.add_neg_cancel, ← Rat.sub_eq_add_neg] at this

theorem order_any (a b c d e f : Int) (w : World) : Calls Try.prog 9 #[.int .i64 a, .int .i64 b, .int .i64 c, .int .i64 d, .int .i64 e, .int .i64 f] w fun e w' => e = .returned (.bool true) ∧ Und w w' := by
  have sx := Rt.someR_sm a b 900 (by omega)
  have sy := Rt.someR_sm c d 900 (by omega)
  have sz := Rt.someR_sm e f 900 (by omega)
  obtain ⟨x, hx⟩ : ∃ x, Rt.someR a b 900 = x := ⟨_, rfl⟩
  obtain ⟨y, hy⟩ : ∃ y, Rt.someR c d 900 = y := ⟨_, rfl⟩
  obtain ⟨z, hz⟩ : ∃ z, Rt.someR e f 900 = z := ⟨_, rfl⟩
  rw [hx] at sx
  rw [hy] at sy
  rw [hz] at sz
  have ox := sx.ok (by omega) (by omega)
  have oy := sy.ok (by omega) (by omega)
  have oz := sz.ok (by omega) (by omega)
  have ot := (sx.sub sy).ok (by omega) (by omega)
  have op := (sx.add sz).ok (by omega) (by omega)
  have oq := (sy.add sz).ok (by omega) (by omega)
  have o0 : Rt.okR 0 = true := by decide
  by_cases h : x < y
  · have hne : x ≠ y := fun e => by rw [e] at h; exact Rat.lt_irrefl h
    by_cases hyz : y < z
    · exact order_lt1 a b c d e f x y z _ _ _ w ⟨by omega, by omega, hx⟩ ⟨by omega, by omega, hy⟩ ⟨by omega, by omega, hz⟩ ⟨ox, oy, Rt.cmp_lt h⟩ ⟨oy, ox, Rt.cmp_gt h⟩ (eqP_ne hne) ⟨ox, oy, ot, rfl⟩ ⟨ox, oz, op, rfl⟩ ⟨oy, oz, oq, rfl⟩
        ⟨ot, o0, Rt.cmp_lt (Rt.sub_lt0 h)⟩ ⟨op, oq, Rt.cmp_lt (Rt.add_lt z h)⟩ ⟨oy, oz, Rt.cmp_lt hyz⟩ ⟨ox, oz, Rt.cmp_lt (Std.lt_trans h hyz)⟩
    · exact order_lt2 a b c d e f x y z _ _ _ w ⟨by omega, by omega, hx⟩ ⟨by omega, by omega, hy⟩ ⟨by omega, by omega, hz⟩ ⟨ox, oy, Rt.cmp_lt h⟩ ⟨oy, ox, Rt.cmp_gt h⟩ (eqP_ne hne) ⟨ox, oy, ot, rfl⟩ ⟨ox, oz, op, rfl⟩ ⟨oy, oz, oq, rfl⟩
        ⟨ot, o0, Rt.cmp_lt (Rt.sub_lt0 h)⟩ ⟨op, oq, Rt.cmp_lt (Rt.add_lt z h)⟩ _ (Rt.cmp_ge hyz) ⟨oy, oz, rfl⟩
  · by_cases h' : y < x
    · have hne : x ≠ y := fun e => by rw [e] at h'; exact Rat.lt_irrefl h'
      exact order_gt a b c d e f x y z _ _ _ w ⟨by omega, by omega, hx⟩ ⟨by omega, by omega, hy⟩ ⟨by omega, by omega, hz⟩ ⟨ox, oy, Rt.cmp_gt h'⟩ ⟨oy, ox, Rt.cmp_lt h'⟩ (eqP_ne hne) ⟨ox, oy, ot, rfl⟩ ⟨ox, oz, op, rfl⟩ ⟨oy, oz, oq, rfl⟩
        ⟨ot, o0, Rt.cmp_gt (Rt.sub_gt0 h')⟩ ⟨op, oq, Rt.cmp_gt (Rt.add_lt z h')⟩
    · obtain rfl : x = y := Rat.le_antisymm (Rat.not_lt.1 h') (Rat.not_lt.1 h)
      exact order_eq a b c d e f x z _ _ w ⟨by omega, by omega, hx⟩ ⟨by omega, by omega, hy⟩ ⟨by omega, by omega, hz⟩ ⟨ox, ox, Rt.cmp_eq x⟩ ⟨ox, ox, ot, rfl⟩ ⟨ox, oz, op, rfl⟩
        ⟨ot, o0, by rw [Rat.sub_eq_add_neg, Rat.add_neg_cancel]; exact Rt.cmp_eq 0⟩ ⟨op, op, Rt.cmp_eq _⟩
end Go.Proofs.Ytoalkjfdddjjaaa
