/- The law RoleAllows: walk. Condition: the library's own variable at the head of memory holds some integer. -/
import Derived.Test.YthgmlkeojhfijaaDoorRoleKnown
import Derived.Test.YthgmlkeojhfijaaDoorMkPlace
namespace Go.Proofs.YthgmlkeojhfijaaDoor
open Go.RowKit

theorem least_le (k : Int) : Ro.leastI k ≤ 4 := by unfold Ro.leastI; split <;> (try split) <;> (try split) <;> (try split) <;> omega
theorem greater (r k : Int) (h : Ro.allowedI r k = true) (hr : r < 4) : Ro.allowedI (r + 1) k = true := by
  unfold Ro.allowedI at *
  simp at *
  omega

set_option maxRecDepth 20000 in
set_option maxHeartbeats 6400000 in
theorem allows_core (a act m : Int) (w : World) (hm : w.cell? ⟨0, 0, none⟩ = some (.int .i64 m)) : Calls Tryd.prog 3 #[.int .i64 a, .int .i64 act] w fun e w' => e = .returned (.bool true) ∧ Und w w' := by
  have HM := hid hm
  have hb := World.block_lt_of_cell? _ _ hm
  clear hm
  have G := hid (greater (a % 3 + 1) (act % 18 - 1))
  go_enter Tryd.func3, Tryd.ntmps3
  go_wp2_with (first | (go_at_call 9; refine (place_any _ _ _ (by omega) (by omega)).mono ?_; rintro e w' ⟨rfl, rfl⟩) | (go_at_call 10; refine (allowed_any _ _ _).mono ?_; rintro e w' ⟨rfl, X, rfl⟩) | (go_at_call 11; refine (refallowed_any _ _ _).mono ?_; rintro e w' ⟨rfl, rfl⟩))
  refine wp_loop_rounds 3 ?_
  rw [rounds_succ]
  go_wp2_with (first | (go_at_call 9; refine (place_any _ _ _ (by omega) (by omega)).mono ?_; rintro e w' ⟨rfl, rfl⟩) | (go_at_call 10; refine (allowed_any _ _ _).mono ?_; rintro e w' ⟨rfl, X, rfl⟩) | (go_at_call 11; refine (refallowed_any _ _ _).mono ?_; rintro e w' ⟨rfl, rfl⟩))
  refine wp_loop_rounds 3 ?_
  rw [rounds_succ]
  go_wp2_with (first | (go_at_call 9; refine (place_any _ _ _ (by omega) (by omega)).mono ?_; rintro e w' ⟨rfl, rfl⟩) | (go_at_call 10; refine (allowed_any _ _ _).mono ?_; rintro e w' ⟨rfl, X, rfl⟩) | (go_at_call 11; refine (refallowed_any _ _ _).mono ?_; rintro e w' ⟨rfl, rfl⟩))
  rw [rounds_succ]
  go_wp2_with (first | (go_at_call 9; refine (place_any _ _ _ (by omega) (by omega)).mono ?_; rintro e w' ⟨rfl, rfl⟩) | (go_at_call 10; refine (allowed_any _ _ _).mono ?_; rintro e w' ⟨rfl, X, rfl⟩) | (go_at_call 11; refine (refallowed_any _ _ _).mono ?_; rintro e w' ⟨rfl, rfl⟩))
  rw [rounds_succ]
  go_wp2_with (first | (go_at_call 9; refine (place_any _ _ _ (by omega) (by omega)).mono ?_; rintro e w' ⟨rfl, rfl⟩) | (go_at_call 10; refine (allowed_any _ _ _).mono ?_; rintro e w' ⟨rfl, X, rfl⟩) | (go_at_call 11; refine (refallowed_any _ _ _).mono ?_; rintro e w' ⟨rfl, rfl⟩))
  rw [rounds_succ]
  go_wp2_with (first | (go_at_call 9; refine (place_any _ _ _ (by omega) (by omega)).mono ?_; rintro e w' ⟨rfl, rfl⟩) | (go_at_call 10; refine (allowed_any _ _ _).mono ?_; rintro e w' ⟨rfl, X, rfl⟩) | (go_at_call 11; refine (refallowed_any _ _ _).mono ?_; rintro e w' ⟨rfl, rfl⟩))
  refine wp_loop_rounds 3 ?_
  rw [rounds_succ]
  go_wp2_with (first | (go_at_call 9; refine (place_any _ _ _ (by omega) (by omega)).mono ?_; rintro e w' ⟨rfl, rfl⟩) | (go_at_call 10; refine (allowed_any _ _ _).mono ?_; rintro e w' ⟨rfl, X, rfl⟩) | (go_at_call 11; refine (refallowed_any _ _ _).mono ?_; rintro e w' ⟨rfl, rfl⟩))
  rw [rounds_succ]
  go_wp2_with (first | (go_at_call 9; refine (place_any _ _ _ (by omega) (by omega)).mono ?_; rintro e w' ⟨rfl, rfl⟩) | (go_at_call 10; refine (allowed_any _ _ _).mono ?_; rintro e w' ⟨rfl, X, rfl⟩) | (go_at_call 11; refine (refallowed_any _ _ _).mono ?_; rintro e w' ⟨rfl, rfl⟩))
  rw [rounds_succ]
  go_wp2_with (first | (go_at_call 9; refine (place_any _ _ _ (by omega) (by omega)).mono ?_; rintro e w' ⟨rfl, rfl⟩) | (go_at_call 10; refine (allowed_any _ _ _).mono ?_; rintro e w' ⟨rfl, X, rfl⟩) | (go_at_call 11; refine (refallowed_any _ _ _).mono ?_; rintro e w' ⟨rfl, rfl⟩))
  rw [rounds_succ]
  go_wp2_with fail
  cases hq : Ro.allowedI (a % 3 + 1) (act % 18 - 1)
  · have HQ := hid hq
    go_wp2_with (go_at_call 9; refine (place_any _ _ _ (by omega) (by omega)).mono ?_; rintro e w' ⟨rfl, rfl⟩)
    refine (allowed_any _ _ _).mono ?_
    rw [HQ.out]
    rintro e w' ⟨rfl, X8, rfl⟩
    go_wp2_with (go_at_call 12; refine (known_any m _ ((Und.cell (by repeat (first | exact Und.refl _ | assumption | refine Und.under ?_ _ | refine Und.alloc ?_ _ | refine Und.drew ?_ | refine Und.drewN ?_ _)) hb).trans HM.out)).mono ?_; rintro e w' ⟨rfl, X9, rfl⟩)
    go_ret
    exact ⟨rfl, (by repeat (first | exact Und.refl _ | assumption | refine Und.under ?_ _ | refine Und.alloc ?_ _ | refine Und.drew ?_ | refine Und.drewN ?_ _))⟩
  · have HQ := hid hq
    go_wp2_with (go_at_call 9; refine (place_any _ _ _ (by omega) (by omega)).mono ?_; rintro e w' ⟨rfl, rfl⟩)
    refine (allowed_any _ _ _).mono ?_
    rw [HQ.out]
    rintro e w' ⟨rfl, X8, rfl⟩
    go_wp2_with fail
    refine (allowed_any _ _ _).mono ?_
    rw [G.out HQ.out (by omega)]
    rintro e w' ⟨rfl, X7, rfl⟩
    go_wp2_with (go_at_call 12; refine (known_any m _ ((Und.cell (by repeat (first | exact Und.refl _ | assumption | refine Und.under ?_ _ | refine Und.alloc ?_ _ | refine Und.drew ?_ | refine Und.drewN ?_ _)) hb).trans HM.out)).mono ?_; rintro e w' ⟨rfl, X9, rfl⟩)
    go_ret
    exact ⟨rfl, (by repeat (first | exact Und.refl _ | assumption | refine Und.under ?_ _ | refine Und.alloc ?_ _ | refine Und.drew ?_ | refine Und.drewN ?_ _))⟩
end Go.Proofs.YthgmlkeojhfijaaDoor
