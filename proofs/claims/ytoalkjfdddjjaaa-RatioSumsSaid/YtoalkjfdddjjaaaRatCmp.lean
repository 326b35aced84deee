/- Contracts of Compare and Floor of package ratio and of its reference, for any ratios. No conditions. -/
import Derived.Test.YtoalkjfdddjjaaaRatOps
namespace Go.Proofs.Ytoalkjfdddjjaaa
open Go.RowKit

theorem Rt.fl_lo {n d : Int} (hd : 1 ≤ d) (h : n.tmod d < 0) : n.tdiv d - 1 = n / d := by
  have h1 := Int.mul_tdiv_add_tmod n d
  rw [Int.mul_comm] at h1
  have h2 : -d < n.tmod d := by
    have := Int.lt_tmod_of_pos n (by omega : 0 < d)
    omega
  symm
  rw [Int.ediv_eq_iff_of_pos (by omega)]
  rw [Int.sub_mul]; constructor <;> omega
theorem Rt.fl_hi {n d : Int} (hd : 1 ≤ d) (h : ¬ n.tmod d < 0) : n.tdiv d = n / d := by
  have h1 := Int.mul_tdiv_add_tmod n d
  rw [Int.mul_comm] at h1
  have h2 : n.tmod d < d := Int.tmod_lt_of_pos n (by omega)
  symm
  rw [Int.ediv_eq_iff_of_pos (by omega)]
  constructor <;> omega
def Rt.flN (o : Option Int) : Int := o.getD 0
def Rt.flV (o : Option Int) : Value := .tuple #[.int .i64 (Rt.flN o), .bool o.isSome]

set_option maxHeartbeats 400000 in
theorem compare_yes (a b c d : Int) (w : World) (h1 : Hid (Rt.vB a b = true)) (h2 : Hid (Rt.vB c d = true)) :
    Calls Try.prog 25 #[.agg #[.int .i64 a, .int .i64 b], .agg #[.int .i64 c, .int .i64 d]] w fun e w' => e = .returned (.int .i64 (if a * d < c * b then -1 else if c * b < a * d then 1 else 0)) ∧ Und w w' := by
  obtain ⟨a1, a2, b1, b2⟩ := Rt.vB_bd h1.out
  obtain ⟨c1, c2, d1, d2⟩ := Rt.vB_bd h2.out
  have p1 := Rt.prod_bd a d a1 a2 (by omega) d2
  have p2 := Rt.prod_bd c b c1 c2 (by omega) b2
  by_cases t1 : a * d < c * b
  · rw [if_pos t1]
    go_enter Try.func25, Try.ntmps25
    go_wp2_with (go_at_call 14; refine (valid_t _ _ _ (by first | exact h1.out | exact h2.out)).mono ?_; rintro e w' ⟨rfl, X, rfl⟩)
    first | refine wp_region_under2 (by kernel_rfl) (by kernel_rfl) ?_ | refine wp_region_under (by kernel_rfl) (by kernel_rfl) ?_
    repeat (go_big_quiet_step (first | (fail)))
    refine wpQuiet_nil ?_
    rintro _ ⟨X, rfl⟩
    go_wp2
    go_ret
    exact ⟨rfl, (by repeat (first | exact Und.refl _ | assumption | refine Und.under ?_ _ | refine Und.alloc ?_ _ | refine Und.drew ?_ | refine Und.drewN ?_ _))⟩
  · by_cases t2 : c * b < a * d
    · rw [if_neg t1, if_pos t2]
      go_enter Try.func25, Try.ntmps25
      go_wp2_with (go_at_call 14; refine (valid_t _ _ _ (by first | exact h1.out | exact h2.out)).mono ?_; rintro e w' ⟨rfl, X, rfl⟩)
      first | refine wp_region_under2 (by kernel_rfl) (by kernel_rfl) ?_ | refine wp_region_under (by kernel_rfl) (by kernel_rfl) ?_
      repeat (go_big_quiet_step (first | (fail)))
      refine wpQuiet_nil ?_
      rintro _ ⟨X, rfl⟩
      go_wp2
      go_ret
      exact ⟨rfl, (by repeat (first | exact Und.refl _ | assumption | refine Und.under ?_ _ | refine Und.alloc ?_ _ | refine Und.drew ?_ | refine Und.drewN ?_ _))⟩
    · rw [if_neg t1, if_neg t2]
      go_enter Try.func25, Try.ntmps25
      go_wp2_with (go_at_call 14; refine (valid_t _ _ _ (by first | exact h1.out | exact h2.out)).mono ?_; rintro e w' ⟨rfl, X, rfl⟩)
      first | refine wp_region_under2 (by kernel_rfl) (by kernel_rfl) ?_ | refine wp_region_under (by kernel_rfl) (by kernel_rfl) ?_
      repeat (go_big_quiet_step (first | (fail)))
      refine wpQuiet_nil ?_
      rintro _ ⟨X, rfl⟩
      go_wp2
      go_ret
      exact ⟨rfl, (by repeat (first | exact Und.refl _ | assumption | refine Und.under ?_ _ | refine Und.alloc ?_ _ | refine Und.drew ?_ | refine Und.drewN ?_ _))⟩

theorem compare_no (a b c d : Int) (w : World) (h : Hid (Rt.vB a b = false ∨ (Rt.vB a b = true ∧ Rt.vB c d = false))) :
    Calls Try.prog 25 #[.agg #[.int .i64 a, .int .i64 b], .agg #[.int .i64 c, .int .i64 d]] w fun e w' => e = .returned (.int .i64 0) ∧ Und w w' := by
  rcases h.out with h1 | ⟨h1, h2⟩
  · have H1 := hid h1
    clear h1 h
    go_enter Try.func25, Try.ntmps25
    go_wp2_with (go_at_call 14; refine (valid_f _ _ _ H1.out).mono ?_; rintro e w' ⟨rfl, X, rfl⟩)
    go_ret
    exact ⟨rfl, (by repeat (first | exact Und.refl _ | assumption | refine Und.under ?_ _ | refine Und.alloc ?_ _ | refine Und.drew ?_ | refine Und.drewN ?_ _))⟩
  · have H1 := hid h1
    have H2 := hid h2
    clear h1 h2 h
    go_enter Try.func25, Try.ntmps25
    go_wp2_with fail
    refine (valid_t _ _ _ H1.out).mono ?_
    rintro e w' ⟨rfl, X, rfl⟩
    go_wp2_with fail
    refine (valid_f _ _ _ H2.out).mono ?_
    rintro e w' ⟨rfl, X2, rfl⟩
    go_wp2
    go_ret
    exact ⟨rfl, (by repeat (first | exact Und.refl _ | assumption | refine Und.under ?_ _ | refine Und.alloc ?_ _ | refine Und.drew ?_ | refine Und.drewN ?_ _))⟩

theorem compare_any (a b c d : Int) (w : World) : Calls Try.prog 25 #[.agg #[.int .i64 a, .int .i64 b], .agg #[.int .i64 c, .int .i64 d]] w fun e w' => e = .returned (.int .i64 (Rt.cmpS a b c d)) ∧ Und w w' := by
  unfold Rt.cmpS
  cases h1 : Rt.vB a b
  · exact compare_no a b c d w (hid (Or.inl h1))
  · cases h2 : Rt.vB c d
    · exact compare_no a b c d w (hid (Or.inr ⟨h1, h2⟩))
    · exact compare_yes a b c d w (hid h1) (hid h2)

set_option maxHeartbeats 400000 in
theorem rcompare_yes (a b c d : Int) (w : World) (h1 : Hid (Rt.vB a b = true)) (h2 : Hid (Rt.vB c d = true)) :
    Calls Try.prog 29 #[.agg #[.int .i64 a, .int .i64 b], .agg #[.int .i64 c, .int .i64 d]] w fun e w' => e = .returned (.int .i64 (if a * d < c * b then -1 else if c * b < a * d then 1 else 0)) ∧ Und w w' := by
  obtain ⟨a1, a2, b1, b2⟩ := Rt.vB_bd h1.out
  obtain ⟨c1, c2, d1, d2⟩ := Rt.vB_bd h2.out
  have p1 := Rt.prod_bd a d a1 a2 (by omega) d2
  have p2 := Rt.prod_bd c b c1 c2 (by omega) b2
  by_cases t1 : a * d < c * b
  · rw [if_pos t1]
    go_enter Try.func29, Try.ntmps29
    go_wp2_with (go_at_call 15; refine (rvalid_t _ _ _ (by first | exact h1.out | exact h2.out)).mono ?_; rintro e w' ⟨rfl, X, rfl⟩)
    first | refine wp_region_under2 (by kernel_rfl) (by kernel_rfl) ?_ | refine wp_region_under (by kernel_rfl) (by kernel_rfl) ?_
    repeat (go_big_quiet_step (first | (fail)))
    refine wpQuiet_nil ?_
    rintro _ ⟨X, rfl⟩
    go_wp2
    go_ret
    exact ⟨rfl, (by repeat (first | exact Und.refl _ | assumption | refine Und.under ?_ _ | refine Und.alloc ?_ _ | refine Und.drew ?_ | refine Und.drewN ?_ _))⟩
  · by_cases t2 : c * b < a * d
    · rw [if_neg t1, if_pos t2]
      go_enter Try.func29, Try.ntmps29
      go_wp2_with (go_at_call 15; refine (rvalid_t _ _ _ (by first | exact h1.out | exact h2.out)).mono ?_; rintro e w' ⟨rfl, X, rfl⟩)
      first | refine wp_region_under2 (by kernel_rfl) (by kernel_rfl) ?_ | refine wp_region_under (by kernel_rfl) (by kernel_rfl) ?_
      repeat (go_big_quiet_step (first | (fail)))
      refine wpQuiet_nil ?_
      rintro _ ⟨X, rfl⟩
      go_wp2
      go_ret
      exact ⟨rfl, (by repeat (first | exact Und.refl _ | assumption | refine Und.under ?_ _ | refine Und.alloc ?_ _ | refine Und.drew ?_ | refine Und.drewN ?_ _))⟩
    · rw [if_neg t1, if_neg t2]
      go_enter Try.func29, Try.ntmps29
      go_wp2_with (go_at_call 15; refine (rvalid_t _ _ _ (by first | exact h1.out | exact h2.out)).mono ?_; rintro e w' ⟨rfl, X, rfl⟩)
      first | refine wp_region_under2 (by kernel_rfl) (by kernel_rfl) ?_ | refine wp_region_under (by kernel_rfl) (by kernel_rfl) ?_
      repeat (go_big_quiet_step (first | (fail)))
      refine wpQuiet_nil ?_
      rintro _ ⟨X, rfl⟩
      go_wp2
      go_ret
      exact ⟨rfl, (by repeat (first | exact Und.refl _ | assumption | refine Und.under ?_ _ | refine Und.alloc ?_ _ | refine Und.drew ?_ | refine Und.drewN ?_ _))⟩

theorem rcompare_no (a b c d : Int) (w : World) (h : Hid (Rt.vB a b = false ∨ (Rt.vB a b = true ∧ Rt.vB c d = false))) :
    Calls Try.prog 29 #[.agg #[.int .i64 a, .int .i64 b], .agg #[.int .i64 c, .int .i64 d]] w fun e w' => e = .returned (.int .i64 0) ∧ Und w w' := by
  rcases h.out with h1 | ⟨h1, h2⟩
  · have H1 := hid h1
    clear h1 h
    go_enter Try.func29, Try.ntmps29
    go_wp2_with (go_at_call 15; refine (rvalid_f _ _ _ H1.out).mono ?_; rintro e w' ⟨rfl, X, rfl⟩)
    go_ret
    exact ⟨rfl, (by repeat (first | exact Und.refl _ | assumption | refine Und.under ?_ _ | refine Und.alloc ?_ _ | refine Und.drew ?_ | refine Und.drewN ?_ _))⟩
  · have H1 := hid h1
    have H2 := hid h2
    clear h1 h2 h
    go_enter Try.func29, Try.ntmps29
    go_wp2_with fail
    refine (rvalid_t _ _ _ H1.out).mono ?_
    rintro e w' ⟨rfl, X, rfl⟩
    go_wp2_with fail
    refine (rvalid_f _ _ _ H2.out).mono ?_
    rintro e w' ⟨rfl, X2, rfl⟩
    go_wp2
    go_ret
    exact ⟨rfl, (by repeat (first | exact Und.refl _ | assumption | refine Und.under ?_ _ | refine Und.alloc ?_ _ | refine Und.drew ?_ | refine Und.drewN ?_ _))⟩

theorem rcompare_any (a b c d : Int) (w : World) : Calls Try.prog 29 #[.agg #[.int .i64 a, .int .i64 b], .agg #[.int .i64 c, .int .i64 d]] w fun e w' => e = .returned (.int .i64 (Rt.cmpS a b c d)) ∧ Und w w' := by
  unfold Rt.cmpS
  cases h1 : Rt.vB a b
  · exact rcompare_no a b c d w (hid (Or.inl h1))
  · cases h2 : Rt.vB c d
    · exact rcompare_no a b c d w (hid (Or.inr ⟨h1, h2⟩))
    · exact rcompare_yes a b c d w (hid h1) (hid h2)

theorem rfloor1 (n d : Int) (w : World) (h1 : -1152921504606846976 ≤ n) (h2 : n ≤ 1152921504606846976) (h3 : 1 ≤ d) (h4 : d ≤ 1073741824) :
    Calls Try.prog 36 #[.int .i64 n, .int .i64 d] w fun e w' => e = .returned (.int .i64 (n / d)) ∧ Und w w' := by
  have hq := Rt.tdiv_bd n d 1152921504606846976 h3 (by omega) (by omega)
  have hd : (d == 0) = false := by simp; omega
  have hd' : (d == -1) = false := by simp; omega
  by_cases t : n.tmod d < 0
  · go_enter Try.func36, Try.ntmps36
    go_wp2
    go_ret
    exact ⟨ret_int (Rt.fl_lo h3 t), Und.refl _⟩
  · go_enter Try.func36, Try.ntmps36
    go_wp2
    go_ret
    exact ⟨ret_int (Rt.fl_hi h3 (by omega)), Und.refl _⟩

set_option maxHeartbeats 400000 in
theorem floor_yes (a b k : Int) (w : World) (h1 : Hid (Rt.vB a b = true)) (k1 : -1073741824 ≤ k) (k2 : k ≤ 1073741824) :
    Calls Try.prog 23 #[.agg #[.int .i64 a, .int .i64 b], .int .i64 k] w fun e w' => e = .returned (Rt.flV (some (a * k / b))) ∧ Und w w' := by
  obtain ⟨a1, a2, b1, b2⟩ := Rt.vB_bd h1.out
  have p1 := Rt.prod_bd a k a1 a2 k1 k2
  have hq := Rt.tdiv_bd (a * k) b 1152921504606846976 b1 (by omega) (by omega)
  have hd : (b == 0) = false := by simp; omega
  have hd' : (b == -1) = false := by simp; omega
  by_cases t : (a * k).tmod b < 0
  · go_enter Try.func23, Try.ntmps23
    go_wp2_with (go_at_call 14; refine (valid_t _ _ _ h1.out).mono ?_; rintro e w' ⟨rfl, X, rfl⟩)
    go_ret2
    exact ⟨by rw [Rt.fl_lo b1 t]; rfl, (by repeat (first | exact Und.refl _ | assumption | refine Und.under ?_ _ | refine Und.alloc ?_ _ | refine Und.drew ?_ | refine Und.drewN ?_ _))⟩
  · go_enter Try.func23, Try.ntmps23
    go_wp2_with (go_at_call 14; refine (valid_t _ _ _ h1.out).mono ?_; rintro e w' ⟨rfl, X, rfl⟩)
    go_ret2
    exact ⟨by rw [Rt.fl_hi b1 (by omega)]; rfl, (by repeat (first | exact Und.refl _ | assumption | refine Und.under ?_ _ | refine Und.alloc ?_ _ | refine Und.drew ?_ | refine Und.drewN ?_ _))⟩

set_option maxHeartbeats 400000 in
theorem floor_no (a b k : Int) (w : World) (h : Hid (Rt.vB a b = false ∨ (Rt.vB a b = true ∧ (k < -1073741824 ∨ 1073741824 < k)))) :
    Calls Try.prog 23 #[.agg #[.int .i64 a, .int .i64 b], .int .i64 k] w fun e w' => e = .returned (Rt.flV none) ∧ Und w w' := by
  rcases h.out with h1 | ⟨h1, h2⟩
  · have H1 := hid h1
    clear h1 h
    go_enter Try.func23, Try.ntmps23
    go_wp2_with (go_at_call 14; refine (valid_f _ _ _ H1.out).mono ?_; rintro e w' ⟨rfl, X, rfl⟩)
    go_ret2
    exact ⟨rfl, (by repeat (first | exact Und.refl _ | assumption | refine Und.under ?_ _ | refine Und.alloc ?_ _ | refine Und.drew ?_ | refine Und.drewN ?_ _))⟩
  · have H1 := hid h1
    clear h1 h
    by_cases t : k < -1073741824
    · clear h2
      go_enter Try.func23, Try.ntmps23
      go_wp2_with (go_at_call 14; refine (valid_t _ _ _ H1.out).mono ?_; rintro e w' ⟨rfl, X, rfl⟩)
      go_ret2
      exact ⟨rfl, (by repeat (first | exact Und.refl _ | assumption | refine Und.under ?_ _ | refine Und.alloc ?_ _ | refine Und.drew ?_ | refine Und.drewN ?_ _))⟩
    · have t2 : 1073741824 < k := by omega
      clear h2
      go_enter Try.func23, Try.ntmps23
      go_wp2_with (go_at_call 14; refine (valid_t _ _ _ H1.out).mono ?_; rintro e w' ⟨rfl, X, rfl⟩)
      go_ret2
      exact ⟨rfl, (by repeat (first | exact Und.refl _ | assumption | refine Und.under ?_ _ | refine Und.alloc ?_ _ | refine Und.drew ?_ | refine Und.drewN ?_ _))⟩

theorem floor_any (a b k : Int) (w : World) : Calls Try.prog 23 #[.agg #[.int .i64 a, .int .i64 b], .int .i64 k] w fun e w' => e = .returned (Rt.flV (Rt.floorS a b k)) ∧ Und w w' := by
  unfold Rt.floorS
  cases h1 : Rt.vB a b
  · exact floor_no a b k w (hid (Or.inl h1))
  · by_cases hk : -1073741824 ≤ k ∧ k ≤ 1073741824
    · rw [if_pos (by simp [hk])]; exact floor_yes a b k w (hid h1) hk.1 hk.2
    · rw [if_neg (by simp [hk])]; exact floor_no a b k w (hid (Or.inr ⟨h1, by omega⟩))

set_option maxHeartbeats 400000 in
theorem rfloor_yes (a b k : Int) (w : World) (h1 : Hid (Rt.vB a b = true)) (k1 : -1073741824 ≤ k) (k2 : k ≤ 1073741824) :
    Calls Try.prog 24 #[.agg #[.int .i64 a, .int .i64 b], .int .i64 k] w fun e w' => e = .returned (Rt.flV (some (a * k / b))) ∧ Und w w' := by
  obtain ⟨a1, a2, b1, b2⟩ := Rt.vB_bd h1.out
  have p1 := Rt.prod_bd a k a1 a2 k1 k2
  have hq := Rt.tdiv_bd (a * k) b 1152921504606846976 b1 (by omega) (by omega)
  have hd : (b == 0) = false := by simp; omega
  have hd' : (b == -1) = false := by simp; omega
  go_enter Try.func24, Try.ntmps24
  go_wp2_with (first | (go_at_call 15; refine (rvalid_t _ _ _ h1.out).mono ?_; rintro e w' ⟨rfl, X, rfl⟩) | (go_at_call 36; refine (rfloor1 _ _ _ (by omega) (by omega) b1 b2).mono ?_; rintro e w' ⟨rfl, X, rfl⟩))
  go_ret2
  exact ⟨rfl, (by repeat (first | exact Und.refl _ | assumption | refine Und.under ?_ _ | refine Und.alloc ?_ _ | refine Und.drew ?_ | refine Und.drewN ?_ _))⟩

set_option maxHeartbeats 400000 in
theorem rfloor_no (a b k : Int) (w : World) (h : Hid (Rt.vB a b = false ∨ (Rt.vB a b = true ∧ (k < -1073741824 ∨ 1073741824 < k)))) :
    Calls Try.prog 24 #[.agg #[.int .i64 a, .int .i64 b], .int .i64 k] w fun e w' => e = .returned (Rt.flV none) ∧ Und w w' := by
  rcases h.out with h1 | ⟨h1, h2⟩
  · have H1 := hid h1
    clear h1 h
    go_enter Try.func24, Try.ntmps24
    go_wp2_with (go_at_call 15; refine (rvalid_f _ _ _ H1.out).mono ?_; rintro e w' ⟨rfl, X, rfl⟩)
    go_ret2
    exact ⟨rfl, (by repeat (first | exact Und.refl _ | assumption | refine Und.under ?_ _ | refine Und.alloc ?_ _ | refine Und.drew ?_ | refine Und.drewN ?_ _))⟩
  · have H1 := hid h1
    clear h1 h
    by_cases t : k < -1073741824
    · clear h2
      go_enter Try.func24, Try.ntmps24
      go_wp2_with (go_at_call 15; refine (rvalid_t _ _ _ H1.out).mono ?_; rintro e w' ⟨rfl, X, rfl⟩)
      go_ret2
      exact ⟨rfl, (by repeat (first | exact Und.refl _ | assumption | refine Und.under ?_ _ | refine Und.alloc ?_ _ | refine Und.drew ?_ | refine Und.drewN ?_ _))⟩
    · have t2 : 1073741824 < k := by omega
      clear h2
      go_enter Try.func24, Try.ntmps24
      go_wp2_with (go_at_call 15; refine (rvalid_t _ _ _ H1.out).mono ?_; rintro e w' ⟨rfl, X, rfl⟩)
      go_ret2
      exact ⟨rfl, (by repeat (first | exact Und.refl _ | assumption | refine Und.under ?_ _ | refine Und.alloc ?_ _ | refine Und.drew ?_ | refine Und.drewN ?_ _))⟩

theorem rfloor_any (a b k : Int) (w : World) : Calls Try.prog 24 #[.agg #[.int .i64 a, .int .i64 b], .int .i64 k] w fun e w' => e = .returned (Rt.flV (Rt.floorS a b k)) ∧ Und w w' := by
  unfold Rt.floorS
  cases h1 : Rt.vB a b
  · exact rfloor_no a b k w (hid (Or.inl h1))
  · by_cases hk : -1073741824 ≤ k ∧ k ≤ 1073741824
    · rw [if_pos (by simp [hk])]; exact rfloor_yes a b k w (hid h1) hk.1 hk.2
    · rw [if_neg (by simp [hk])]; exact rfloor_no a b k w (hid (Or.inr ⟨h1, by omega⟩))

end Go.Proofs.Ytoalkjfdddjjaaa
