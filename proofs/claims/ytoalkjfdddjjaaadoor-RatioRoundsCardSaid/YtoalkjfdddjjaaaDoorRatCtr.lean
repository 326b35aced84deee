/- Contracts of package ratio and of its reference, in terms of rationals: reduce, Make, Add, Subtract, Multiply, Compare, Floor return the ratio in lowest terms, or none. Conditions: reduce's numbers are at most 2 to the 62; else none. -/
import Derived.Test.YtoalkjfdddjjaaaDoorRatWalks
namespace Go.Proofs.YtoalkjfdddjjaaaDoor
open Go.RowKit

namespace Rt
/-- The value that a pair of a ratio and a bool has. -/
def rv (o : Option Rat) : Value := .tuple #[.agg #[.int .i64 (oN o), .int .i64 (oD o)], .bool (oB o)]

theorem rv_ok {n d q r : Int} (h1 : (Rat.divInt n d).num = q) (h2 : ((Rat.divInt n d).den : Int) = r) (h3 : mag q ≤ 1073741824) (h4 : r ≤ 1073741824) :
    rv (fit (Rat.divInt n d)) = .tuple #[.agg #[.int .i64 q, .int .i64 r], .bool true] := by
  obtain ⟨a, b, c⟩ := red_ok h1 h2 h3 h4
  unfold rv; rw [a, b, c]
theorem rv_no {n d q r : Int} (h1 : (Rat.divInt n d).num = q) (h2 : ((Rat.divInt n d).den : Int) = r) (h3 : 1073741824 < mag q ∨ 1073741824 < r) :
    rv (fit (Rat.divInt n d)) = .tuple #[.agg #[.int .i64 0, .int .i64 0], .bool false] := by
  obtain ⟨a, b, c⟩ := red_no h1 h2 h3
  unfold rv; rw [a, b, c]
@[go_sem] theorem rv_def (o : Option Rat) : rv o = .tuple #[.agg #[.int .i64 (oN o), .int .i64 (oD o)], .bool (oB o)] := rfl
@[go_sem] theorem oB_none : oB none = false := rfl
@[go_sem] theorem oN_none : oN none = 0 := rfl
@[go_sem] theorem oD_none : oD none = 0 := rfl
@[go_sem] theorem oB_some (q : Rat) : oB (some q) = true := rfl
@[go_sem] theorem oN_some (q : Rat) : oN (some q) = q.num := rfl
@[go_sem] theorem oD_some (q : Rat) : oD (some q) = q.den := rfl
theorem rv_none : rv none = .tuple #[.agg #[.int .i64 0, .int .i64 0], .bool false] := rfl

theorem num_neg {n d g : Int} (hd : d < 0) (hg : (Int.gcd n d : Int) = g) : (Rat.divInt n d).num = -(n.tdiv g) := by
  have h := num_red n d (by omega)
  rw [hg] at h
  unfold sN at h
  rw [if_pos hd, Int.neg_tdiv] at h
  exact h.symm
theorem den_neg {n d g : Int} (hd : d < 0) (hg : (Int.gcd n d : Int) = g) : ((Rat.divInt n d).den : Int) = -(d.tdiv g) := by
  have h := den_red n d (by omega)
  rw [hg] at h
  unfold sD at h
  rw [if_pos hd] at h
  rw [← h, ← Int.neg_tdiv, Int.tdiv_eq_ediv_of_nonneg (by omega)]
theorem num_pos {n d g : Int} (hd : ¬ d < 0) (h0 : d ≠ 0) (hg : (Int.gcd n d : Int) = g) : (Rat.divInt n d).num = n.tdiv g := by
  have h := num_red n d h0
  rw [hg] at h
  unfold sN at h
  rw [if_neg hd] at h
  exact h.symm
theorem den_pos {n d g : Int} (hd : ¬ d < 0) (h0 : d ≠ 0) (hg : (Int.gcd n d : Int) = g) : ((Rat.divInt n d).den : Int) = d / g := by
  have h := den_red n d h0
  rw [hg] at h
  unfold sD at h
  rw [if_neg hd] at h
  exact h.symm
end Rt

theorem ret_eq {a b : Value} (h : a = b) : Ending.returned a = .returned b := by rw [h]

theorem reduce_any (n d : Int) (w : World) (h1 : -4611686018427387904 ≤ n) (h2 : n ≤ 4611686018427387904) (h3 : -4611686018427387904 ≤ d) (h4 : d ≤ 4611686018427387904) (h0 : d ≠ 0) :
    Calls Tryd.prog 28 #[.int .i64 n, .int .i64 d] w fun e w' => e = .returned (Rt.rv (Rt.fit (Rat.divInt n d))) ∧ Und w w' := by
  have hg1 := Rt.gcd_pos n d h0
  obtain ⟨g, hg⟩ : ∃ g : Int, (Int.gcd n d : Int) = g := ⟨_, rfl⟩
  have hg2 : 1 ≤ g := by omega
  by_cases hd : d < 0
  · have e1 := Rt.num_neg hd hg
    have e2 := Rt.den_neg hd hg
    by_cases t1 : Rt.mag (-(n.tdiv g)) ≤ 1073741824
    · by_cases t2 : (-(d.tdiv g)) ≤ 1073741824
      · rw [Rt.rv_ok e1 e2 t1 t2]; exact reduce_neg_ok n d g w h1 h2 h3 h4 h0 hd (hid hg) hg2 t1 t2
      · rw [Rt.rv_no e1 e2 (by omega)]; exact reduce_neg_d n d g w h1 h2 h3 h4 h0 hd (hid hg) hg2 t1 (by omega)
    · rw [Rt.rv_no e1 e2 (by omega)]; exact reduce_neg_n n d g w h1 h2 h3 h4 h0 hd (hid hg) hg2 (by omega)
  · have e1 := Rt.num_pos hd h0 hg
    have e2 := Rt.den_pos hd h0 hg
    by_cases t1 : Rt.mag (n.tdiv g) ≤ 1073741824
    · by_cases t2 : (d / g) ≤ 1073741824
      · rw [Rt.rv_ok e1 e2 t1 t2]; exact reduce_pos_ok n d g w h1 h2 h3 h4 h0 hd (hid hg) hg2 t1 t2
      · rw [Rt.rv_no e1 e2 (by omega)]; exact reduce_pos_d n d g w h1 h2 h3 h4 h0 hd (hid hg) hg2 t1 (by omega)
    · rw [Rt.rv_no e1 e2 (by omega)]; exact reduce_pos_n n d g w h1 h2 h3 h4 h0 hd (hid hg) hg2 (by omega)

theorem reduced_any (n d : Int) (w : World) (h1 : -4611686018427387904 ≤ n) (h2 : n ≤ 4611686018427387904) (h3 : -4611686018427387904 ≤ d) (h4 : d ≤ 4611686018427387904) (h0 : d ≠ 0) :
    Calls Tryd.prog 27 #[.int .i64 n, .int .i64 d] w fun e w' => e = .returned (Rt.rv (Rt.fit (Rat.divInt n d))) ∧ Und w w' := by
  have hg1 := Rt.gcd_pos n d h0
  obtain ⟨g, hg⟩ : ∃ g : Int, (Int.gcd n d : Int) = g := ⟨_, rfl⟩
  have hg2 : 1 ≤ g := by omega
  by_cases hd : d < 0
  · have e1 := Rt.num_neg hd hg
    have e2 := Rt.den_neg hd hg
    by_cases t1 : Rt.mag (-(n.tdiv g)) ≤ 1073741824
    · by_cases t2 : (-(d.tdiv g)) ≤ 1073741824
      · rw [Rt.rv_ok e1 e2 t1 t2]; exact reduced_neg_ok n d g w h1 h2 h3 h4 h0 hd (hid hg) hg2 t1 t2
      · rw [Rt.rv_no e1 e2 (by omega)]; exact reduced_neg_d n d g w h1 h2 h3 h4 h0 hd (hid hg) hg2 t1 (by omega)
    · rw [Rt.rv_no e1 e2 (by omega)]; exact reduced_neg_n n d g w h1 h2 h3 h4 h0 hd (hid hg) hg2 (by omega)
  · have e1 := Rt.num_pos hd h0 hg
    have e2 := Rt.den_pos hd h0 hg
    by_cases t1 : Rt.mag (n.tdiv g) ≤ 1073741824
    · by_cases t2 : (d / g) ≤ 1073741824
      · rw [Rt.rv_ok e1 e2 t1 t2]; exact reduced_pos_ok n d g w h1 h2 h3 h4 h0 hd (hid hg) hg2 t1 t2
      · rw [Rt.rv_no e1 e2 (by omega)]; exact reduced_pos_d n d g w h1 h2 h3 h4 h0 hd (hid hg) hg2 t1 (by omega)
    · rw [Rt.rv_no e1 e2 (by omega)]; exact reduced_pos_n n d g w h1 h2 h3 h4 h0 hd (hid hg) hg2 (by omega)

set_option maxHeartbeats 400000 in
theorem make_yes (n d : Int) (w : World) (h1 : -2147483648 ≤ n) (h2 : n ≤ 2147483648) (h3 : -2147483648 ≤ d) (h4 : d ≤ 2147483648) (h0 : d ≠ 0) :
    Calls Tryd.prog 16 #[.int .i64 n, .int .i64 d] w fun e w' => e = .returned (Rt.rv (Rt.fit (Rat.divInt n d))) ∧ Und w w' := by
  have h0' : (d == 0) = false := by simpa using h0
  go_enter Tryd.func16, Tryd.ntmps16
  go_wp2_with (go_at_call 28; refine (reduce_any _ _ _ (by omega) (by omega) (by omega) (by omega) h0).mono ?_; rintro e w' ⟨rfl, X, rfl⟩)
  exact bodyPost_ret (v := Rt.rv (Rt.fit (Rat.divInt n d))) (by simp [results, Tryd.results16, go_sem]) rfl ⟨rfl, (by repeat (first | exact Und.refl _ | assumption | refine Und.under ?_ _ | refine Und.alloc ?_ _ | refine Und.drew ?_ | refine Und.drewN ?_ _))⟩

theorem make_no (n d : Int) (w : World) (h : d = 0 ∨ n < -2147483648 ∨ 2147483648 < n ∨ d < -2147483648 ∨ 2147483648 < d) :
    Calls Tryd.prog 16 #[.int .i64 n, .int .i64 d] w fun e w' => e = .returned (Rt.rv none) ∧ Und w w' := by
  by_cases h0 : d = 0
  · subst h0
    clear h
    go_enter Tryd.func16, Tryd.ntmps16
    go_wp2
    exact bodyPost_ret (v := Rt.rv none) (by simp [results, Tryd.results16, go_sem, Rt.oN, Rt.oD, Rt.oB]) rfl ⟨rfl, (by repeat (first | exact Und.refl _ | assumption | refine Und.under ?_ _ | refine Und.alloc ?_ _ | refine Und.drew ?_ | refine Und.drewN ?_ _))⟩
  have h0' : (d == 0) = false := by simpa using h0
  by_cases h1 : n < -2147483648
  · clear h; go_enter Tryd.func16, Tryd.ntmps16
    go_wp2
    exact bodyPost_ret (v := Rt.rv none) (by simp [results, Tryd.results16, go_sem, Rt.oN, Rt.oD, Rt.oB]) rfl ⟨rfl, (by repeat (first | exact Und.refl _ | assumption | refine Und.under ?_ _ | refine Und.alloc ?_ _ | refine Und.drew ?_ | refine Und.drewN ?_ _))⟩
  by_cases h2 : 2147483648 < n
  · clear h; go_enter Tryd.func16, Tryd.ntmps16
    go_wp2
    exact bodyPost_ret (v := Rt.rv none) (by simp [results, Tryd.results16, go_sem, Rt.oN, Rt.oD, Rt.oB]) rfl ⟨rfl, (by repeat (first | exact Und.refl _ | assumption | refine Und.under ?_ _ | refine Und.alloc ?_ _ | refine Und.drew ?_ | refine Und.drewN ?_ _))⟩
  by_cases h3 : d < -2147483648
  · clear h; go_enter Tryd.func16, Tryd.ntmps16
    go_wp2
    exact bodyPost_ret (v := Rt.rv none) (by simp [results, Tryd.results16, go_sem, Rt.oN, Rt.oD, Rt.oB]) rfl ⟨rfl, (by repeat (first | exact Und.refl _ | assumption | refine Und.under ?_ _ | refine Und.alloc ?_ _ | refine Und.drew ?_ | refine Und.drewN ?_ _))⟩
  have h4 : 2147483648 < d := by omega
  clear h; go_enter Tryd.func16, Tryd.ntmps16
  go_wp2
  exact bodyPost_ret (v := Rt.rv none) (by simp [results, Tryd.results16, go_sem, Rt.oN, Rt.oD, Rt.oB]) rfl ⟨rfl, (by repeat (first | exact Und.refl _ | assumption | refine Und.under ?_ _ | refine Und.alloc ?_ _ | refine Und.drew ?_ | refine Und.drewN ?_ _))⟩

theorem make_any (n d : Int) (w : World) : Calls Tryd.prog 16 #[.int .i64 n, .int .i64 d] w fun e w' => e = .returned (Rt.rv (Rt.makeS n d)) ∧ Und w w' := by
  unfold Rt.makeS
  by_cases h : d = 0 ∨ n < -2147483648 ∨ 2147483648 < n ∨ d < -2147483648 ∨ 2147483648 < d
  · rw [if_pos (decide_eq_true h)]; exact make_no n d w h
  · rw [if_neg (by simpa using h)]; exact make_yes n d w (by omega) (by omega) (by omega) (by omega) (by omega)

set_option maxHeartbeats 400000 in
theorem rmake_yes (n d : Int) (w : World) (h1 : -2147483648 ≤ n) (h2 : n ≤ 2147483648) (h3 : -2147483648 ≤ d) (h4 : d ≤ 2147483648) (h0 : d ≠ 0) :
    Calls Tryd.prog 15 #[.int .i64 n, .int .i64 d] w fun e w' => e = .returned (Rt.rv (Rt.fit (Rat.divInt n d))) ∧ Und w w' := by
  have h0' : (d == 0) = false := by simpa using h0
  go_enter Tryd.func15, Tryd.ntmps15
  go_wp2_with (go_at_call 27; refine (reduced_any _ _ _ (by omega) (by omega) (by omega) (by omega) h0).mono ?_; rintro e w' ⟨rfl, X, rfl⟩)
  exact bodyPost_ret (v := Rt.rv (Rt.fit (Rat.divInt n d))) (by simp [results, Tryd.results15, go_sem]) rfl ⟨rfl, (by repeat (first | exact Und.refl _ | assumption | refine Und.under ?_ _ | refine Und.alloc ?_ _ | refine Und.drew ?_ | refine Und.drewN ?_ _))⟩

theorem rmake_no (n d : Int) (w : World) (h : d = 0 ∨ n < -2147483648 ∨ 2147483648 < n ∨ d < -2147483648 ∨ 2147483648 < d) :
    Calls Tryd.prog 15 #[.int .i64 n, .int .i64 d] w fun e w' => e = .returned (Rt.rv none) ∧ Und w w' := by
  by_cases h0 : d = 0
  · subst h0
    clear h
    go_enter Tryd.func15, Tryd.ntmps15
    go_wp2
    exact bodyPost_ret (v := Rt.rv none) (by simp [results, Tryd.results15, go_sem, Rt.oN, Rt.oD, Rt.oB]) rfl ⟨rfl, (by repeat (first | exact Und.refl _ | assumption | refine Und.under ?_ _ | refine Und.alloc ?_ _ | refine Und.drew ?_ | refine Und.drewN ?_ _))⟩
  have h0' : (d == 0) = false := by simpa using h0
  by_cases h1 : n < -2147483648
  · clear h; go_enter Tryd.func15, Tryd.ntmps15
    go_wp2
    exact bodyPost_ret (v := Rt.rv none) (by simp [results, Tryd.results15, go_sem, Rt.oN, Rt.oD, Rt.oB]) rfl ⟨rfl, (by repeat (first | exact Und.refl _ | assumption | refine Und.under ?_ _ | refine Und.alloc ?_ _ | refine Und.drew ?_ | refine Und.drewN ?_ _))⟩
  by_cases h2 : 2147483648 < n
  · clear h; go_enter Tryd.func15, Tryd.ntmps15
    go_wp2
    exact bodyPost_ret (v := Rt.rv none) (by simp [results, Tryd.results15, go_sem, Rt.oN, Rt.oD, Rt.oB]) rfl ⟨rfl, (by repeat (first | exact Und.refl _ | assumption | refine Und.under ?_ _ | refine Und.alloc ?_ _ | refine Und.drew ?_ | refine Und.drewN ?_ _))⟩
  by_cases h3 : d < -2147483648
  · clear h; go_enter Tryd.func15, Tryd.ntmps15
    go_wp2
    exact bodyPost_ret (v := Rt.rv none) (by simp [results, Tryd.results15, go_sem, Rt.oN, Rt.oD, Rt.oB]) rfl ⟨rfl, (by repeat (first | exact Und.refl _ | assumption | refine Und.under ?_ _ | refine Und.alloc ?_ _ | refine Und.drew ?_ | refine Und.drewN ?_ _))⟩
  have h4 : 2147483648 < d := by omega
  clear h; go_enter Tryd.func15, Tryd.ntmps15
  go_wp2
  exact bodyPost_ret (v := Rt.rv none) (by simp [results, Tryd.results15, go_sem, Rt.oN, Rt.oD, Rt.oB]) rfl ⟨rfl, (by repeat (first | exact Und.refl _ | assumption | refine Und.under ?_ _ | refine Und.alloc ?_ _ | refine Und.drew ?_ | refine Und.drewN ?_ _))⟩

theorem rmake_any (n d : Int) (w : World) : Calls Tryd.prog 15 #[.int .i64 n, .int .i64 d] w fun e w' => e = .returned (Rt.rv (Rt.makeS n d)) ∧ Und w w' := by
  unfold Rt.makeS
  by_cases h : d = 0 ∨ n < -2147483648 ∨ 2147483648 < n ∨ d < -2147483648 ∨ 2147483648 < d
  · rw [if_pos (decide_eq_true h)]; exact rmake_no n d w h
  · rw [if_neg (by simpa using h)]; exact rmake_yes n d w (by omega) (by omega) (by omega) (by omega) (by omega)

end Go.Proofs.YtoalkjfdddjjaaaDoor
