/- Plain: the decimal notation of a ratio, rounded to some digits. No program in sight. -/
import Derived.Lib.ItoaNum
import Derived.Test.YtoalkjfdddjjaaaDoorRatPlain
namespace Go.Proofs.YtoalkjfdddjjaaaDoor.Rt

def p10 : Nat → Nat
  | 0 => 1
  | k + 1 => p10 k * 10
theorem p10_pos (k : Nat) : 1 ≤ p10 k := by induction k with | zero => decide | succ k ih => unfold p10; omega
theorem p10_le {j k : Nat} (h : j ≤ k) : p10 j ≤ p10 k := by
  induction k with
  | zero => obtain rfl : j = 0 := by omega
            exact Nat.le_refl _
  | succ k ih =>
    by_cases e : j = k + 1
    · rw [e]; exact Nat.le_refl _
    · have := ih (by omega); have := p10_pos k; have e : p10 (k + 1) = p10 k * 10 := rfl; omega
theorem p10_six {k : Nat} (h : k ≤ 6) : p10 k ≤ 1000000 := p10_le h

theorem digits_le {u k : Nat} (h : u < p10 k) (hk : 1 ≤ k) : (Lib.decDigits u).length ≤ k := by
  rw [Lib.decDigits_length]
  induction k generalizing u with
  | zero => omega
  | succ k ih =>
    rw [Lib.nDigits]
    split
    · omega
    · by_cases h0 : k = 0
      · subst h0; unfold p10 p10 at h; omega
      · have := ih (u := u / 10) (by unfold p10 at h; omega) (by omega); omega
theorem digits_20 {u : Nat} (h : u ≤ 4611686018427387904) : (Lib.decDigits u).length ≤ 19 := digits_le (k := 19) (by show u < 10000000000000000000; omega) (by omega)

/-- The rounded number of units of the last digit. -/
def units (a b : Int) (k : Nat) : Int := (2 * mag a * (p10 k : Int) + b) / (2 * b)
def fmtL (a b : Int) (k : Nat) : List UInt8 :=
  let s := Lib.decDigits (units a b k / (p10 k : Int)).toNat ++ (if k = 0 then [] else 46 :: (List.replicate (k - (Lib.decDigits (units a b k % (p10 k : Int)).toNat).length) 48 ++ Lib.decDigits (units a b k % (p10 k : Int)).toNat))
  if a < 0 ∧ 0 < units a b k then 45 :: s else s

theorem mul3_bd (m P : Int) (h1 : 0 ≤ m) (h2 : m ≤ 1073741824) (h3 : 1 ≤ P) (h4 : P ≤ 1000000) : 0 ≤ 2 * m * P ∧ 2 * m * P ≤ 2147483648000000 := by
  have e : (2 * m * P).natAbs ≤ 2147483648 * 1000000 := by rw [Int.natAbs_mul]; exact Nat.mul_le_mul (by omega) (by omega)
  have := Int.mul_nonneg (show 0 ≤ 2 * m by omega) (show 0 ≤ P by omega)
  omega
theorem units_bd {a b : Int} {k : Nat} (h1 : -1073741824 ≤ a) (h2 : a ≤ 1073741824) (h3 : 1 ≤ b) (h4 : b ≤ 1073741824) (hk : k ≤ 6) : 0 ≤ units a b k ∧ units a b k ≤ 4611686018427387904 := by
  have hm := mag_bd a
  have hp := p10_pos k
  have hp' := p10_six hk
  have hb := mul3_bd (mag a) (p10 k) (by omega) (by omega) (by omega) (by omega)
  have := ediv_bd (2 * mag a * (p10 k : Int) + b) (2 * b) 4611686018427387904 (by omega) (by omega) (by omega)
  exact this
theorem mul2_bd (m P : Int) (h1 : 0 ≤ m) (h2 : m ≤ 1073741824) (h3 : 1 ≤ P) (h4 : P ≤ 1000000) : 0 ≤ m * P ∧ m * P ≤ 1073741824000000 := by
  have e : (m * P).natAbs ≤ 1073741824 * 1000000 := by rw [Int.natAbs_mul]; exact Nat.mul_le_mul (by omega) (by omega)
  have := Int.mul_nonneg h1 (show 0 ≤ P by omega)
  omega
end Go.Proofs.YtoalkjfdddjjaaaDoor.Rt
