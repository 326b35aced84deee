/- Plain mathematics of the ratios: what reduce, Valid, Add .. compute, said over Lean's integers and rationals. No program in sight. -/
namespace Go.Proofs.YtoalkjfdddjjaaaDoor.Rt

theorem gcd_step (a b : Int) (ha : 0 ≤ a) (hb : 0 ≤ b) : Int.gcd b (a % b) = Int.gcd a b := by
  obtain ⟨m, rfl⟩ := Int.eq_ofNat_of_zero_le ha
  obtain ⟨n, rfl⟩ := Int.eq_ofNat_of_zero_le hb
  show Nat.gcd n (m % n) = Nat.gcd m n
  rw [Nat.gcd_comm m n, Nat.gcd_comm n, ← Nat.gcd_rec]

/-- The greatest integer that the program allows in a ratio is 2^30. -/
def okR (q : Rat) : Bool := decide (-1073741824 ≤ q.num ∧ q.num ≤ 1073741824 ∧ (q.den : Int) ≤ 1073741824)
def fit (q : Rat) : Option Rat := if okR q = true then some q else none
def oN (o : Option Rat) : Int := match o with | some q => q.num | none => 0
def oD (o : Option Rat) : Int := match o with | some q => q.den | none => 0
def oB (o : Option Rat) : Bool := o.isSome

/-- Valid. -/
def vB (n d : Int) : Bool := decide (-1073741824 ≤ n ∧ n ≤ 1073741824 ∧ 1 ≤ d ∧ d ≤ 1073741824 ∧ Int.gcd n d = 1)
def val (n d : Int) : Option Rat := if vB n d = true then some (Rat.divInt n d) else none

/-- The numerator and the denominator behind reduce's first test. -/
def sN (n d : Int) : Int := if d < 0 then -n else n
def sD (d : Int) : Int := if d < 0 then -d else d
def mag (n : Int) : Int := if n < 0 then -n else n

theorem mag_bd (n : Int) : 0 ≤ mag n ∧ (n ≤ mag n) ∧ (-n ≤ mag n) ∧ (mag n = n ∨ mag n = -n) := by unfold mag; split <;> omega
theorem gcd_mag (a b : Int) : Int.gcd (mag a) b = Int.gcd a b := by unfold mag; split <;> simp
theorem sgcd (n d : Int) : Int.gcd (sN n d) (sD d) = Int.gcd n d := by unfold sN sD; split <;> simp

theorem num_red (n d : Int) (hd : d ≠ 0) : (sN n d).tdiv (Int.gcd n d) = (Rat.divInt n d).num := by
  rw [Int.tdiv_eq_ediv_of_dvd, Rat.num_divInt, Int.gcd_comm d n]
  · unfold sN; split
    · rw [Int.sign_eq_neg_one_of_neg ‹_›]; simp
    · rw [Int.sign_eq_one_of_pos (by omega)]; simp
  · unfold sN; split
    · exact (Int.dvd_neg).2 (Int.gcd_dvd_left _ _)
    · exact (Int.gcd_dvd_left _ _)

theorem den_red (n d : Int) (hd : d ≠ 0) : (sD d) / (Int.gcd n d) = ((Rat.divInt n d).den : Int) := by
  have h : (d.natAbs : Int) = sD d := by unfold sD; split <;> omega
  rw [Rat.den_divInt, if_neg hd, Int.gcd_comm d n, Int.natCast_ediv, h]

theorem gcd_pos (n d : Int) (hd : d ≠ 0) : 1 ≤ Int.gcd n d := by
  have := Int.gcd_pos_iff.2 (Or.inr hd : n ≠ 0 ∨ d ≠ 0); omega

/-- A valid ratio is in lowest terms: its rational has these very numbers. -/
theorem vB_num {n d : Int} (h : vB n d = true) : (Rat.divInt n d).num = n ∧ ((Rat.divInt n d).den : Int) = d := by
  have h := of_decide_eq_true h
  obtain ⟨_, _, h3, _, h5⟩ := h
  have e1 := num_red n d (by omega)
  have e2 := den_red n d (by omega)
  rw [h5] at e1 e2
  unfold sN at e1; unfold sD at e2
  rw [if_neg (by omega)] at e1 e2
  simp at e1 e2
  exact ⟨e1.symm, e2.symm⟩

/-- Conversely: the numbers of a rational within the bounds are valid. -/
theorem vB_of (q : Rat) (h : okR q = true) : vB q.num q.den = true := by
  have h := of_decide_eq_true h
  have hp := q.den_pos
  have hr : Nat.gcd q.num.natAbs q.den = 1 := q.reduced
  unfold vB
  simp only [decide_eq_true_eq]
  refine ⟨h.1, h.2.1, by omega, h.2.2, ?_⟩
  show Nat.gcd q.num.natAbs (q.den : Int).natAbs = 1
  rw [Int.natAbs_natCast, hr]

theorem val_num (q : Rat) (h : okR q = true) : val q.num q.den = some q := by
  unfold val
  rw [if_pos (vB_of q h)]
  rw [Rat.divInt_ofNat, Rat.mkRat_self]

theorem okR_of_vB {n d : Int} (h : vB n d = true) : okR (Rat.divInt n d) = true := by
  obtain ⟨e1, e2⟩ := vB_num h
  have h := of_decide_eq_true h
  unfold okR
  rw [e1, e2]
  simp only [decide_eq_true_eq]
  omega

def addS (a b c d : Int) : Option Rat := if vB a b && vB c d then fit (Rat.divInt a b + Rat.divInt c d) else none
def subS (a b c d : Int) : Option Rat := if vB a b && vB c d then fit (Rat.divInt a b - Rat.divInt c d) else none
def mulS (a b c d : Int) : Option Rat := if vB a b && vB c d then fit (Rat.divInt a b * Rat.divInt c d) else none
def makeS (n d : Int) : Option Rat := if decide (d = 0 ∨ n < -2147483648 ∨ 2147483648 < n ∨ d < -2147483648 ∨ 2147483648 < d) then none else fit (Rat.divInt n d)
def cmpS (a b c d : Int) : Int := if vB a b && vB c d then (if a * d < c * b then -1 else if c * b < a * d then 1 else 0) else 0
def floorS (n d s : Int) : Option Int := if vB n d && decide (-1073741824 ≤ s ∧ s ≤ 1073741824) then some ((n * s) / d) else none

theorem add_div (a b c d : Int) (hb : b ≠ 0) (hd : d ≠ 0) : Rat.divInt (a * d + c * b) (b * d) = Rat.divInt a b + Rat.divInt c d := by
  rw [Rat.divInt_add_divInt _ _ hb hd]
theorem sub_div (a b c d : Int) (hb : b ≠ 0) (hd : d ≠ 0) : Rat.divInt (a * d - c * b) (b * d) = Rat.divInt a b - Rat.divInt c d := by
  rw [Rat.divInt_sub_divInt _ _ hb hd]
theorem mul_div (a b c d : Int) : Rat.divInt (a * c) (b * d) = Rat.divInt a b * Rat.divInt c d := by
  rw [Rat.divInt_mul_divInt _ _]

/-- A product of two numbers of at most 30 bits. -/
theorem prod_bd (a b : Int) (h1 : -1073741824 ≤ a) (h2 : a ≤ 1073741824) (h3 : -1073741824 ≤ b) (h4 : b ≤ 1073741824) : -1152921504606846976 ≤ a * b ∧ a * b ≤ 1152921504606846976 := by
  have e : (a * b).natAbs ≤ 1073741824 * 1073741824 := by
    rw [Int.natAbs_mul]; exact Nat.mul_le_mul (by omega) (by omega)
  omega

theorem vB_gcd {n d : Int} (h1 : -1073741824 ≤ n) (h2 : n ≤ 1073741824) (h3 : 1 ≤ d) (h4 : d ≤ 1073741824) : vB n d = (((Int.gcd (mag n) d : Nat) : Int) == 1) := by
  rw [gcd_mag, Bool.eq_iff_iff]
  unfold vB
  simp only [decide_eq_true_eq, beq_iff_eq]
  omega
theorem vB_out {n d : Int} (h : ¬ (-1073741824 ≤ n ∧ n ≤ 1073741824 ∧ 1 ≤ d ∧ d ≤ 1073741824)) : vB n d = false := by
  unfold vB
  simp only [decide_eq_false_iff_not]
  omega

theorem red_ok {n d q r : Int} (h1 : (Rat.divInt n d).num = q) (h2 : ((Rat.divInt n d).den : Int) = r) (h3 : mag q ≤ 1073741824) (h4 : r ≤ 1073741824) :
    oN (fit (Rat.divInt n d)) = q ∧ oD (fit (Rat.divInt n d)) = r ∧ oB (fit (Rat.divInt n d)) = true := by
  have hm := mag_bd q
  have : okR (Rat.divInt n d) = true := by unfold okR; rw [h1, h2]; simp only [decide_eq_true_eq]; omega
  unfold fit
  rw [if_pos this]
  exact ⟨h1, h2, rfl⟩
theorem red_no {n d q r : Int} (h1 : (Rat.divInt n d).num = q) (h2 : ((Rat.divInt n d).den : Int) = r) (h3 : 1073741824 < mag q ∨ 1073741824 < r) :
    oN (fit (Rat.divInt n d)) = 0 ∧ oD (fit (Rat.divInt n d)) = 0 ∧ oB (fit (Rat.divInt n d)) = false := by
  have hm := mag_bd q
  have : ¬ okR (Rat.divInt n d) = true := by unfold okR; rw [h1, h2]; simp only [decide_eq_true_eq]; omega
  unfold fit
  rw [if_neg this]
  exact ⟨rfl, rfl, rfl⟩
theorem tdiv_bd (a g b : Int) (_hg : 1 ≤ g) (h1 : -b ≤ a) (h2 : a ≤ b) : -b ≤ a.tdiv g ∧ a.tdiv g ≤ b := by
  have e : (a.tdiv g).natAbs ≤ a.natAbs := by rw [Int.natAbs_tdiv]; exact Nat.div_le_self _ _
  omega
theorem ediv_bd (a g b : Int) (hg : 1 ≤ g) (h1 : 0 ≤ a) (h2 : a ≤ b) : 0 ≤ a / g ∧ a / g ≤ b := by
  have e := Int.ediv_le_self g h1
  have e' := Int.ediv_nonneg h1 (by omega : 0 ≤ g)
  omega

theorem gcd_is {n d g : Int} (h : (Int.gcd n d : Int) = g) : (Int.gcd (mag n) d : Int) = g := by rw [gcd_mag]; exact h
theorem gcd_is_neg {n d g : Int} (h : (Int.gcd n d : Int) = g) : (Int.gcd (mag (-n)) (-d) : Int) = g := by rw [gcd_mag]; simpa using h

end Go.Proofs.YtoalkjfdddjjaaaDoor.Rt
