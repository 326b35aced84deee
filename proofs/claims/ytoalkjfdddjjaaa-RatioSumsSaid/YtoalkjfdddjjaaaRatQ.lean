/- Bounds of sums, differences and products of small rationals, and the contracts of package ratio at rationals that are valid. No conditions beyond those stated. -/
import Derived.Test.YtoalkjfdddjjaaaRatKnown
namespace Go.Proofs.Ytoalkjfdddjjaaa
open Go.RowKit
namespace Rt

theorem mul_bd (a b A B : Int) (h1 : -A ≤ a) (h2 : a ≤ A) (h3 : -B ≤ b) (h4 : b ≤ B) : -(A * B) ≤ a * b ∧ a * b ≤ A * B := by
  obtain ⟨A', rfl⟩ := Int.eq_ofNat_of_zero_le (by omega : 0 ≤ A)
  obtain ⟨B', rfl⟩ := Int.eq_ofNat_of_zero_le (by omega : 0 ≤ B)
  have e : (a * b).natAbs ≤ A' * B' := by rw [Int.natAbs_mul]; exact Nat.mul_le_mul (by omega) (by omega)
  have e2 : ((A' * B' : Nat) : Int) = (A' : Int) * (B' : Int) := by simp
  omega
theorem mul_pos_bd (a b A B : Int) (h1 : 1 ≤ a) (h2 : a ≤ A) (h3 : 1 ≤ b) (h4 : b ≤ B) : 1 ≤ a * b ∧ a * b ≤ A * B := by
  have := mul_bd a b A B (by omega) h2 (by omega) h4
  have := Int.mul_pos (by omega : 0 < a) (by omega : 0 < b)
  omega
theorem Sm.add {A B C D : Int} {q r : Rat} (h : Sm A B q) (k : Sm C D r) : Sm (A * D + C * B) (B * D) (q + r) := by
  obtain ⟨n, d, rfl, h1, h2, h3, h4⟩ := h
  obtain ⟨m, e, rfl, k1, k2, k3, k4⟩ := k
  have b1 := mul_bd n e A D h1 h2 (by omega) k4
  have b2 := mul_bd m d C B k1 k2 (by omega) h4
  have b3 := mul_pos_bd d e B D h3 h4 k3 k4
  exact ⟨n * e + m * d, d * e, (add_div n d m e (by omega) (by omega)).symm, by omega, by omega, b3.1, b3.2⟩
theorem Sm.sub {A B C D : Int} {q r : Rat} (h : Sm A B q) (k : Sm C D r) : Sm (A * D + C * B) (B * D) (q - r) := by
  obtain ⟨n, d, rfl, h1, h2, h3, h4⟩ := h
  obtain ⟨m, e, rfl, k1, k2, k3, k4⟩ := k
  have b1 := mul_bd n e A D h1 h2 (by omega) k4
  have b2 := mul_bd m d C B k1 k2 (by omega) h4
  have b3 := mul_pos_bd d e B D h3 h4 k3 k4
  exact ⟨n * e - m * d, d * e, (sub_div n d m e (by omega) (by omega)).symm, by omega, by omega, b3.1, b3.2⟩
theorem Sm.mul {A B C D : Int} {q r : Rat} (h : Sm A B q) (k : Sm C D r) : Sm (A * C) (B * D) (q * r) := by
  obtain ⟨n, d, rfl, h1, h2, h3, h4⟩ := h
  obtain ⟨m, e, rfl, k1, k2, k3, k4⟩ := k
  have b1 := mul_bd n m A C h1 h2 k1 k2
  have b3 := mul_pos_bd d e B D h3 h4 k3 k4
  exact ⟨n * m, d * e, (mul_div n d m e).symm, by omega, by omega, b3.1, b3.2⟩

theorem div_self (q : Rat) : Rat.divInt q.num q.den = q := by rw [Rat.divInt_ofNat, Rat.mkRat_self]
def cmpQ (x y : Rat) : Int := if x < y then -1 else if y < x then 1 else 0
end Rt

def AddIs (x y s : Rat) : Prop := Rt.okR x = true ∧ Rt.okR y = true ∧ Rt.okR s = true ∧ x + y = s
def SubIs (x y s : Rat) : Prop := Rt.okR x = true ∧ Rt.okR y = true ∧ Rt.okR s = true ∧ x - y = s
def MulIs (x y s : Rat) : Prop := Rt.okR x = true ∧ Rt.okR y = true ∧ Rt.okR s = true ∧ x * y = s
def CmpIs (x y : Rat) (k : Int) : Prop := Rt.okR x = true ∧ Rt.okR y = true ∧ Rt.cmpQ x y = k
def SomeIs (a b s : Int) (q : Rat) : Prop := 1 ≤ s ∧ s ≤ 1048576 ∧ Rt.someR a b s = q

theorem some_q {a b s : Int} {q : Rat} (h : SomeIs a b s q) (w : World) : Calls Try.prog 17 #[.int .i64 a, .int .i64 b, .int .i64 s] w fun e w' => e = .returned (.agg #[.int .i64 q.num, .int .i64 q.den]) ∧ Und w w' := by
  obtain ⟨h1, h2, rfl⟩ := h
  exact some_any a b s w h1 h2
theorem add_q {x y s : Rat} (h : AddIs x y s) (w : World) : Calls Try.prog 18 #[.agg #[.int .i64 x.num, .int .i64 x.den], .agg #[.int .i64 y.num, .int .i64 y.den]] w fun e w' => e = .returned (.tuple #[.agg #[.int .i64 s.num, .int .i64 s.den], .bool true]) ∧ Und w w' := by
  obtain ⟨hx, hy, hs, rfl⟩ := h
  have := add_any x.num x.den y.num y.den w
  unfold Rt.addS at this
  rw [Rt.vB_of x hx, Rt.vB_of y hy, Rt.div_self, Rt.div_self, if_pos (show (true && true) = true from rfl), Rt.fit_some hs] at this
  exact this
theorem sub_q {x y s : Rat} (h : SubIs x y s) (w : World) : Calls Try.prog 20 #[.agg #[.int .i64 x.num, .int .i64 x.den], .agg #[.int .i64 y.num, .int .i64 y.den]] w fun e w' => e = .returned (.tuple #[.agg #[.int .i64 s.num, .int .i64 s.den], .bool true]) ∧ Und w w' := by
  obtain ⟨hx, hy, hs, rfl⟩ := h
  have := sub_any x.num x.den y.num y.den w
  unfold Rt.subS at this
  rw [Rt.vB_of x hx, Rt.vB_of y hy, Rt.div_self, Rt.div_self, if_pos (show (true && true) = true from rfl), Rt.fit_some hs] at this
  exact this
theorem mul_q {x y s : Rat} (h : MulIs x y s) (w : World) : Calls Try.prog 19 #[.agg #[.int .i64 x.num, .int .i64 x.den], .agg #[.int .i64 y.num, .int .i64 y.den]] w fun e w' => e = .returned (.tuple #[.agg #[.int .i64 s.num, .int .i64 s.den], .bool true]) ∧ Und w w' := by
  obtain ⟨hx, hy, hs, rfl⟩ := h
  have := mul_any x.num x.den y.num y.den w
  unfold Rt.mulS at this
  rw [Rt.vB_of x hx, Rt.vB_of y hy, Rt.div_self, Rt.div_self, if_pos (show (true && true) = true from rfl), Rt.fit_some hs] at this
  exact this
theorem cmp_q {x y : Rat} {k : Int} (h : CmpIs x y k) (w : World) : Calls Try.prog 25 #[.agg #[.int .i64 x.num, .int .i64 x.den], .agg #[.int .i64 y.num, .int .i64 y.den]] w fun e w' => e = .returned (.int .i64 k) ∧ Und w w' := by
  obtain ⟨hx, hy, rfl⟩ := h
  have := compare_any x.num x.den y.num y.den w
  unfold Rt.cmpS at this
  rw [Rt.vB_of x hx, Rt.vB_of y hy, if_pos (show (true && true) = true from rfl)] at this
  simp only [← Rat.lt_iff] at this
  exact this
end Go.Proofs.Ytoalkjfdddjjaaa
