/- The laws RatioField and RatioUndoes: addition and multiplication are commutative and associative, multiplication distributes over addition; subtracting what was added gives the first ratio again. No conditions. -/
import Derived.Test.YtoalkjfdddjjaaaRatQ
import Derived.Outline
namespace Go.Proofs.Ytoalkjfdddjjaaa
open Go.RowKit

set_option maxRecDepth 100000 in
set_option maxHeartbeats 4000000 in
theorem field_core (a b c d e f : Int) (x y z xy yz l p q s : Rat) (w : World) (hx : SomeIs a b 300 x) (hy : SomeIs c d 300 y) (hz : SomeIs e f 300 z)
    (h1 : AddIs x y xy) (h2 : AddIs y x xy) (h3 : AddIs xy z l) (h4 : AddIs y z yz) (h5 : AddIs x yz l) (h6 : MulIs x yz p) (h7 : MulIs x y q) (h8 : MulIs x z s) (h9 : MulIs y x q) (h10 : AddIs q s p) :
    Calls Try.prog 5 #[.int .i64 a, .int .i64 b, .int .i64 c, .int .i64 d, .int .i64 e, .int .i64 f] w fun e w' => e = .returned (.bool true) ∧ Und w w' := by
  go_enter Try.func5, Try.ntmps5
  go_wp2_with fail
  refine (some_q hx _).mono ?_; rintro e w' ⟨rfl, X1, rfl⟩
  go_wp2_with fail
  refine (some_q hy _).mono ?_; rintro e w' ⟨rfl, X2, rfl⟩
  go_wp2_with fail
  refine (some_q hz _).mono ?_; rintro e w' ⟨rfl, X3, rfl⟩
  go_wp2_with fail
  refine (add_q h1 _).mono ?_; rintro e w' ⟨rfl, X4, rfl⟩
  go_wp2_with fail
  refine (add_q h2 _).mono ?_; rintro e w' ⟨rfl, X5, rfl⟩
  go_wp2_with fail
  refine (add_q h3 _).mono ?_; rintro e w' ⟨rfl, X6, rfl⟩
  go_wp2_with fail
  refine (add_q h4 _).mono ?_; rintro e w' ⟨rfl, X7, rfl⟩
  go_wp2_with fail
  refine (add_q h5 _).mono ?_; rintro e w' ⟨rfl, X8, rfl⟩
  go_wp2_with fail
  refine (mul_q h6 _).mono ?_; rintro e w' ⟨rfl, X9, rfl⟩
  go_wp2_with fail
  refine (mul_q h7 _).mono ?_; rintro e w' ⟨rfl, X10, rfl⟩
  go_wp2_with fail
  refine (mul_q h8 _).mono ?_; rintro e w' ⟨rfl, X11, rfl⟩
  go_wp2_with fail
  refine (mul_q h9 _).mono ?_; rintro e w' ⟨rfl, X12, rfl⟩
  go_wp2_with fail
  refine (add_q h10 _).mono ?_; rintro e w' ⟨rfl, X13, rfl⟩
  go_wp2_with (go_at_call 16; refine (known_any _).mono ?_; rintro e w' ⟨rfl, X14, rfl⟩)
  go_ret
  exact ⟨rfl, (by repeat (first | exact Und.refl _ | assumption | refine Und.under ?_ _ | refine Und.alloc ?_ _ | refine Und.drew ?_ | refine Und.drewN ?_ _))⟩

theorem field_any (a b c d e f : Int) (w : World) : Calls Try.prog 5 #[.int .i64 a, .int .i64 b, .int .i64 c, .int .i64 d, .int .i64 e, .int .i64 f] w fun e w' => e = .returned (.bool true) ∧ Und w w' := by
  have sx := Rt.someR_sm a b 300 (by omega)
  have sy := Rt.someR_sm c d 300 (by omega)
  have sz := Rt.someR_sm e f 300 (by omega)
  have sxy := sx.add sy
  have syz := sy.add sz
  have sl := sxy.add sz
  have sp := sx.mul syz
  have sq := sx.mul sy
  have ss := sx.mul sz
  exact field_core a b c d e f (Rt.someR a b 300) (Rt.someR c d 300) (Rt.someR e f 300) _ _ _ _ _ _ w ⟨by omega, by omega, rfl⟩ ⟨by omega, by omega, rfl⟩ ⟨by omega, by omega, rfl⟩
    ⟨sx.ok (by omega) (by omega), sy.ok (by omega) (by omega), sxy.ok (by omega) (by omega), rfl⟩
    ⟨sy.ok (by omega) (by omega), sx.ok (by omega) (by omega), sxy.ok (by omega) (by omega), Rat.add_comm _ _⟩
    ⟨sxy.ok (by omega) (by omega), sz.ok (by omega) (by omega), sl.ok (by omega) (by omega), rfl⟩
    ⟨sy.ok (by omega) (by omega), sz.ok (by omega) (by omega), syz.ok (by omega) (by omega), rfl⟩
    ⟨sx.ok (by omega) (by omega), syz.ok (by omega) (by omega), sl.ok (by omega) (by omega), (Rat.add_assoc _ _ _).symm⟩
    ⟨sx.ok (by omega) (by omega), syz.ok (by omega) (by omega), sp.ok (by omega) (by omega), rfl⟩
    ⟨sx.ok (by omega) (by omega), sy.ok (by omega) (by omega), sq.ok (by omega) (by omega), rfl⟩
    ⟨sx.ok (by omega) (by omega), sz.ok (by omega) (by omega), ss.ok (by omega) (by omega), rfl⟩
    ⟨sy.ok (by omega) (by omega), sx.ok (by omega) (by omega), sq.ok (by omega) (by omega), Rat.mul_comm _ _⟩
    ⟨sq.ok (by omega) (by omega), ss.ok (by omega) (by omega), sp.ok (by omega) (by omega), (Rat.mul_add _ _ _).symm⟩

set_option maxHeartbeats 1600000 in
theorem undoes_core (a b c d : Int) (x y s z : Rat) (w : World) (hx : SomeIs a b 20000 x) (hy : SomeIs c d 20000 y) (h1 : AddIs x y s) (h2 : SubIs s y x) (h3 : SubIs x x z) (z1 : z.num = 0) (z2 : z.den = 1) :
    Calls Try.prog 6 #[.int .i64 a, .int .i64 b, .int .i64 c, .int .i64 d] w fun e w' => e = .returned (.bool true) ∧ Und w w' := by
  go_enter Try.func6, Try.ntmps6
  go_wp2_with fail
  refine (some_q hx _).mono ?_; rintro e w' ⟨rfl, X1, rfl⟩
  go_wp2_with fail
  refine (some_q hy _).mono ?_; rintro e w' ⟨rfl, X2, rfl⟩
  go_wp2_with fail
  refine (add_q h1 _).mono ?_; rintro e w' ⟨rfl, X3, rfl⟩
  go_wp2_with fail
  refine (sub_q h2 _).mono ?_; rintro e w' ⟨rfl, X4, rfl⟩
  go_wp2_with fail
  refine (sub_q h3 _).mono ?_; rintro e w' ⟨rfl, X5, rfl⟩
  go_wp2_with (go_at_call 16; refine (known_any _).mono ?_; rintro e w' ⟨rfl, X14, rfl⟩)
  go_ret
  exact ⟨rfl, (by repeat (first | exact Und.refl _ | assumption | refine Und.under ?_ _ | refine Und.alloc ?_ _ | refine Und.drew ?_ | refine Und.drewN ?_ _))⟩

theorem undoes_any (a b c d : Int) (w : World) : Calls Try.prog 6 #[.int .i64 a, .int .i64 b, .int .i64 c, .int .i64 d] w fun e w' => e = .returned (.bool true) ∧ Und w w' := by
  have sx := Rt.someR_sm a b 20000 (by omega)
  have sy := Rt.someR_sm c d 20000 (by omega)
  have ss := sx.add sy
  have ox := sx.ok (by omega) (by omega)
  exact undoes_core a b c d (Rt.someR a b 20000) (Rt.someR c d 20000) _ 0 w ⟨by omega, by omega, rfl⟩ ⟨by omega, by omega, rfl⟩
    ⟨ox, sy.ok (by omega) (by omega), ss.ok (by omega) (by omega), rfl⟩
    ⟨ss.ok (by omega) (by omega), sy.ok (by omega) (by omega), ox, by rw [Rat.sub_eq_add_neg, Rat.add_assoc, Rat.add_neg_cancel, Rat.add_zero]⟩
    ⟨ox, ox, by decide, by rw [Rat.sub_eq_add_neg, Rat.add_neg_cancel]⟩ rfl rfl
end Go.Proofs.Ytoalkjfdddjjaaa
