/- Contracts of Add, Subtract, Multiply, Compare and Floor of package ratio and of its reference: what they return for any two ratios. No conditions. -/
import Derived.Test.YtoalkjfdddjjaaaDoorRatCtr
namespace Go.Proofs.YtoalkjfdddjjaaaDoor
open Go.RowKit
theorem valid_t (n d : Int) (w : World) (h : Rt.vB n d = true) : Calls Tryd.prog 9 #[.agg #[.int .i64 n, .int .i64 d]] w fun e w' => e = .returned (.bool true) ∧ Und w w' := h ▸ valid_any n d w
theorem valid_f (n d : Int) (w : World) (h : Rt.vB n d = false) : Calls Tryd.prog 9 #[.agg #[.int .i64 n, .int .i64 d]] w fun e w' => e = .returned (.bool false) ∧ Und w w' := h ▸ valid_any n d w
theorem rvalid_t (n d : Int) (w : World) (h : Rt.vB n d = true) : Calls Tryd.prog 13 #[.agg #[.int .i64 n, .int .i64 d]] w fun e w' => e = .returned (.bool true) ∧ Und w w' := h ▸ rvalid_any n d w
theorem rvalid_f (n d : Int) (w : World) (h : Rt.vB n d = false) : Calls Tryd.prog 13 #[.agg #[.int .i64 n, .int .i64 d]] w fun e w' => e = .returned (.bool false) ∧ Und w w' := h ▸ rvalid_any n d w

theorem Rt.vB_bd {n d : Int} (h : Rt.vB n d = true) : -1073741824 ≤ n ∧ n ≤ 1073741824 ∧ 1 ≤ d ∧ d ≤ 1073741824 := by
  have h := of_decide_eq_true h
  exact ⟨h.1, h.2.1, h.2.2.1, h.2.2.2.1⟩

set_option maxHeartbeats 400000 in
theorem add_yes (a b c d : Int) (w : World) (h1 : Hid (Rt.vB a b = true)) (h2 : Hid (Rt.vB c d = true)) :
    Calls Tryd.prog 17 #[.agg #[.int .i64 a, .int .i64 b], .agg #[.int .i64 c, .int .i64 d]] w fun e w' => e = .returned (Rt.rv (Rt.fit (Rat.divInt a b + Rat.divInt c d))) ∧ Und w w' := by
  obtain ⟨a1, a2, b1, b2⟩ := Rt.vB_bd h1.out
  obtain ⟨c1, c2, d1, d2⟩ := Rt.vB_bd h2.out
  rw [← Rt.add_div a b c d (by omega) (by omega)]
  have p1 := Rt.prod_bd a d a1 a2 (by omega) d2
  have p2 := Rt.prod_bd c b c1 c2 (by omega) b2
  have p3 := Rt.prod_bd b d (by omega) b2 (by omega) d2
  have p4 := Rt.prod_bd a c a1 a2 c1 c2
  have p5 : b * d ≠ 0 := Int.mul_ne_zero (by omega) (by omega)
  go_enter Tryd.func17, Tryd.ntmps17
  go_wp2_with (first | (go_at_call 9; refine (valid_t _ _ _ (by first | exact h1.out | exact h2.out)).mono ?_; rintro e w' ⟨rfl, X, rfl⟩) | (go_at_call 28; refine (reduce_any _ _ _ (by omega) (by omega) (by omega) (by omega) p5).mono ?_; rintro e w' ⟨rfl, X, rfl⟩))
  exact bodyPost_ret (v := Rt.rv (Rt.fit (Rat.divInt (a * d + c * b) (b * d)))) (by simp [results, Tryd.results17, go_sem]) rfl ⟨rfl, (by repeat (first | exact Und.refl _ | assumption | refine Und.under ?_ _ | refine Und.alloc ?_ _ | refine Und.drew ?_ | refine Und.drewN ?_ _))⟩

theorem add_no (a b c d : Int) (w : World) (h : Hid (Rt.vB a b = false ∨ (Rt.vB a b = true ∧ Rt.vB c d = false))) :
    Calls Tryd.prog 17 #[.agg #[.int .i64 a, .int .i64 b], .agg #[.int .i64 c, .int .i64 d]] w fun e w' => e = .returned (Rt.rv none) ∧ Und w w' := by
  rcases h.out with h1 | ⟨h1, h2⟩
  · have H1 := hid h1
    clear h1 h
    go_enter Tryd.func17, Tryd.ntmps17
    go_wp2_with (go_at_call 9; refine (valid_f _ _ _ H1.out).mono ?_; rintro e w' ⟨rfl, X, rfl⟩)
    exact bodyPost_ret (v := Rt.rv none) (by simp [results, Tryd.results17, go_sem, Rt.oN, Rt.oD, Rt.oB]) rfl ⟨rfl, (by repeat (first | exact Und.refl _ | assumption | refine Und.under ?_ _ | refine Und.alloc ?_ _ | refine Und.drew ?_ | refine Und.drewN ?_ _))⟩
  · have H1 := hid h1
    have H2 := hid h2
    clear h1 h2 h
    go_enter Tryd.func17, Tryd.ntmps17
    go_wp2_with fail
    refine (valid_t _ _ _ H1.out).mono ?_
    rintro e w' ⟨rfl, X, rfl⟩
    go_wp2_with fail
    refine (valid_f _ _ _ H2.out).mono ?_
    rintro e w' ⟨rfl, X2, rfl⟩
    go_wp2
    exact bodyPost_ret (v := Rt.rv none) (by simp [results, Tryd.results17, go_sem, Rt.oN, Rt.oD, Rt.oB]) rfl ⟨rfl, (by repeat (first | exact Und.refl _ | assumption | refine Und.under ?_ _ | refine Und.alloc ?_ _ | refine Und.drew ?_ | refine Und.drewN ?_ _))⟩

theorem add_any (a b c d : Int) (w : World) : Calls Tryd.prog 17 #[.agg #[.int .i64 a, .int .i64 b], .agg #[.int .i64 c, .int .i64 d]] w fun e w' => e = .returned (Rt.rv (Rt.addS a b c d)) ∧ Und w w' := by
  unfold Rt.addS
  cases h1 : Rt.vB a b
  · exact add_no a b c d w (hid (Or.inl h1))
  · cases h2 : Rt.vB c d
    · exact add_no a b c d w (hid (Or.inr ⟨h1, h2⟩))
    · exact add_yes a b c d w (hid h1) (hid h2)

end Go.Proofs.YtoalkjfdddjjaaaDoor
