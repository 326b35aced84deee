/- The laws' fixed example of package bitextlaw28: it returns true. -/
import Derived.Test.YthgmlkeojhfijaaDoorRoleParse
import Derived.Test.YthgmlkeojhfijaaDoorRoleAllowed
namespace Go.Proofs.YthgmlkeojhfijaaDoor
open Go.RowKit

set_option maxHeartbeats 3200000 in
theorem index_02_2 (b c : Nat) (w : World) (h0 : w.cell? ⟨b, 0, none⟩ = some (.int .i64 0)) (h1 : w.cell? ⟨b, 1, none⟩ = some (.int .i64 2)) :
    Calls Tryd.prog 44 #[.slice (some ⟨b, 0, none⟩) 2 c, .int .i64 2] w fun e w' => e = .returned (.int .i64 1) ∧ w = w' := by
  go_enter Tryd.func44, Tryd.ntmps44
  go_wp2
  refine wp_loop_rounds 2 ?_
  rw [rounds_succ]
  go_wp2
  rw [rounds_succ]
  go_wp2
  go_ret
  exact ⟨rfl, rfl⟩
set_option maxHeartbeats 3200000 in
theorem index_02_1 (b c : Nat) (w : World) (h0 : w.cell? ⟨b, 0, none⟩ = some (.int .i64 0)) (h1 : w.cell? ⟨b, 1, none⟩ = some (.int .i64 2)) :
    Calls Tryd.prog 44 #[.slice (some ⟨b, 0, none⟩) 2 c, .int .i64 1] w fun e w' => e = .returned (.int .i64 (-1)) ∧ w = w' := by
  go_enter Tryd.func44, Tryd.ntmps44
  go_wp2
  refine wp_loop_rounds 3 ?_
  rw [rounds_succ]
  go_wp2
  rw [rounds_succ]
  go_wp2
  rw [rounds_succ]
  go_wp2
  go_ret
  exact ⟨rfl, rfl⟩
theorem contains_02_2 (b c : Nat) (w : World) (h0 : w.cell? ⟨b, 0, none⟩ = some (.int .i64 0)) (h1 : w.cell? ⟨b, 1, none⟩ = some (.int .i64 2)) :
    Calls Tryd.prog 29 #[.slice (some ⟨b, 0, none⟩) 2 c, .int .i64 2] w fun e w' => e = .returned (.bool true) ∧ w = w' := by
  go_enter Tryd.func29, Tryd.ntmps29
  go_wp2_with (go_at_call 44; refine (index_02_2 b c _ h0 h1).mono ?_; rintro e w' ⟨rfl, rfl⟩)
  go_ret
  exact ⟨rfl, rfl⟩
theorem contains_02_1 (b c : Nat) (w : World) (h0 : w.cell? ⟨b, 0, none⟩ = some (.int .i64 0)) (h1 : w.cell? ⟨b, 1, none⟩ = some (.int .i64 2)) :
    Calls Tryd.prog 29 #[.slice (some ⟨b, 0, none⟩) 2 c, .int .i64 1] w fun e w' => e = .returned (.bool false) ∧ w = w' := by
  go_enter Tryd.func29, Tryd.ntmps29
  go_wp2_with (go_at_call 44; refine (index_02_1 b c _ h0 h1).mono ?_; rintro e w' ⟨rfl, rfl⟩)
  go_ret
  exact ⟨rfl, rfl⟩

theorem idx_ann2 : idxFrom sAnn 0 [sAnn, sBob] = 0 := by simp [idxFrom]
theorem idx_eve2 : idxFrom sEve 0 [sAnn, sBob] = -1 := by
  have e : (sAnn.toList == sEve.toList) = false := by rw [Lib.toList_data, Lib.toList_data]; decide
  have f : (sBob.toList == sEve.toList) = false := by rw [Lib.toList_data, Lib.toList_data]; decide
  simp [idxFrom, e, f]

/-- The two users of the example, in memory. -/
def Two (w : World) (a d : Nat) : Prop :=
  w.cell? ⟨a, 0, none⟩ = some (.string sAnn) ∧ w.cell? ⟨a, 1, none⟩ = some (.int .i64 3) ∧ (∃ c, w.cell? ⟨a, 2, none⟩ = some (.slice (some ⟨d, 0, none⟩) 2 c)) ∧
  w.cell? ⟨a, 3, none⟩ = some (.string sBob) ∧ w.cell? ⟨a, 4, none⟩ = some (.int .i64 1) ∧ w.cell? ⟨a, 5, none⟩ = some (.slice none 0 0) ∧
  w.cell? ⟨d, 0, none⟩ = some (.int .i64 0) ∧ w.cell? ⟨d, 1, none⟩ = some (.int .i64 2)
theorem Two.lt {w : World} {a d : Nat} (h : Two w a d) : a < w.heap.size ∧ d < w.heap.size := ⟨World.block_lt_of_cell? _ _ h.1, World.block_lt_of_cell? _ _ h.2.2.2.2.2.2.1⟩
theorem Two.und {w w' : World} {a d : Nat} (h : Two w a d) (u : Und w w') : Two w' a d := by
  obtain ⟨l1, l2⟩ := h.lt
  obtain ⟨h0, h1, ⟨c, h2⟩, h3, h4, h5, h6, h7⟩ := h
  refine ⟨?_, ?_, ⟨c, ?_⟩, ?_, ?_, ?_, ?_, ?_⟩ <;> rw [u.cell (by assumption)] <;> assumption
theorem Two.names {w : World} {a d : Nat} (h : Two w a d) : NamesAt w (some ⟨a, 0, none⟩) [sAnn, sBob] := by
  obtain ⟨l1, l2⟩ := h.lt
  obtain ⟨h0, h1, ⟨c, h2⟩, h3, h4, h5, h6, h7⟩ := h
  intro _
  refine ⟨a, 0, rfl, l1, fun i hi => ?_⟩
  match i, hi with
  | 0, _ => exact ⟨_, _, _, _, h0, h1, h2⟩
  | 1, _ => exact ⟨_, _, _, _, h3, h4, h5⟩
  | i + 2, hi => simp at hi; omega

set_option maxHeartbeats 3200000 in
theorem may_ann2 (a d c : Nat) (w : World) (h : Two w a d) : Calls Tryd.prog 16 #[.slice (some ⟨a, 0, none⟩) 2 c, .string sAnn, .int .i64 6, .int .i64 2] w fun e w' => e = .returned (.int .i64 0) ∧ Und w w' := by
  have H := hid h
  obtain ⟨l1, l2⟩ := h.lt
  obtain ⟨h0, h1, ⟨c2, h2⟩, h3, h4, h5, h6, h7⟩ := h
  haveI : LtW a w := LtW.of l1
  haveI : LtW d w := LtW.of l2
  go_enter Tryd.func16, Tryd.ntmps16
  go_wp2_with fail
  refine (find_any _ c 2 sAnn [sAnn, sBob] w rfl (by omega) H.out.names).mono ?_
  rw [idx_ann2]
  rintro e w1 ⟨rfl, X, rfl⟩
  go_wp2_with fail
  refine (allowed_any 3 6 _).mono ?_
  rw [show Ro.allowedI 3 6 = true by decide]
  rintro e w1 ⟨rfl, X2, rfl⟩
  go_wp2_with fail
  refine (contains_02_2 d c2 _ ((Und.cell (by repeat (first | exact Und.refl _ | assumption | refine Und.under ?_ _ | refine Und.alloc ?_ _ | refine Und.drew ?_ | refine Und.drewN ?_ _)) l2).trans h6) ((Und.cell (by repeat (first | exact Und.refl _ | assumption | refine Und.under ?_ _ | refine Und.alloc ?_ _ | refine Und.drew ?_ | refine Und.drewN ?_ _)) l2).trans h7)).mono ?_
  rintro e w1 ⟨rfl, rfl⟩
  go_wp2_with fail
  go_ret
  exact ⟨rfl, (by repeat (first | exact Und.refl _ | assumption | refine Und.under ?_ _ | refine Und.alloc ?_ _ | refine Und.drew ?_ | refine Und.drewN ?_ _))⟩
set_option maxHeartbeats 3200000 in
theorem may_ann1 (a d c : Nat) (w : World) (h : Two w a d) : Calls Tryd.prog 16 #[.slice (some ⟨a, 0, none⟩) 2 c, .string sAnn, .int .i64 6, .int .i64 1] w fun e w' => e = .returned (.int .i64 10) ∧ Und w w' := by
  have H := hid h
  obtain ⟨l1, l2⟩ := h.lt
  obtain ⟨h0, h1, ⟨c2, h2⟩, h3, h4, h5, h6, h7⟩ := h
  haveI : LtW a w := LtW.of l1
  haveI : LtW d w := LtW.of l2
  go_enter Tryd.func16, Tryd.ntmps16
  go_wp2_with fail
  refine (find_any _ c 2 sAnn [sAnn, sBob] w rfl (by omega) H.out.names).mono ?_
  rw [idx_ann2]
  rintro e w1 ⟨rfl, X, rfl⟩
  go_wp2_with fail
  refine (allowed_any 3 6 _).mono ?_
  rw [show Ro.allowedI 3 6 = true by decide]
  rintro e w1 ⟨rfl, X2, rfl⟩
  go_wp2_with fail
  refine (contains_02_1 d c2 _ ((Und.cell (by repeat (first | exact Und.refl _ | assumption | refine Und.under ?_ _ | refine Und.alloc ?_ _ | refine Und.drew ?_ | refine Und.drewN ?_ _)) l2).trans h6) ((Und.cell (by repeat (first | exact Und.refl _ | assumption | refine Und.under ?_ _ | refine Und.alloc ?_ _ | refine Und.drew ?_ | refine Und.drewN ?_ _)) l2).trans h7)).mono ?_
  rintro e w1 ⟨rfl, rfl⟩
  go_wp2_with fail
  go_ret
  exact ⟨rfl, (by repeat (first | exact Und.refl _ | assumption | refine Und.under ?_ _ | refine Und.alloc ?_ _ | refine Und.drew ?_ | refine Und.drewN ?_ _))⟩
set_option maxHeartbeats 3200000 in
theorem may_eve (a d c : Nat) (w : World) (h : Two w a d) : Calls Tryd.prog 16 #[.slice (some ⟨a, 0, none⟩) 2 c, .string sEve, .int .i64 12, .int .i64 0] w fun e w' => e = .returned (.int .i64 4) ∧ Und w w' := by
  have H := hid h
  clear h
  go_enter Tryd.func16, Tryd.ntmps16
  go_wp2_with fail
  refine (find_any _ c 2 sEve [sAnn, sBob] w rfl (by omega) H.out.names).mono ?_
  rw [idx_eve2]
  rintro e w1 ⟨rfl, X, rfl⟩
  go_wp2_with fail
  go_ret
  exact ⟨rfl, (by repeat (first | exact Und.refl _ | assumption | refine Und.under ?_ _ | refine Und.alloc ?_ _ | refine Und.drew ?_ | refine Und.drewN ?_ _))⟩

set_option maxRecDepth 20000 in
set_option maxHeartbeats 3200000 in
theorem same_known (a d b e c c' : Nat) (w : World) (h : Two w a d) (h' : Two w b e) : Calls Tryd.prog 24 #[.slice (some ⟨a, 0, none⟩) 2 c, .slice (some ⟨b, 0, none⟩) 2 c'] w fun e w' => e = .returned (.bool true) ∧ Und w w' := by
  obtain ⟨l1, l2⟩ := h.lt
  obtain ⟨l3, l4⟩ := h'.lt
  obtain ⟨h0, h1, ⟨c2, h2⟩, h3, h4, h5, h6, h7⟩ := h
  obtain ⟨k0, k1, ⟨c3, k2⟩, k3, k4, k5, k6, k7⟩ := h'
  haveI : LtW a w := LtW.of l1
  haveI : LtW d w := LtW.of l2
  haveI : LtW b w := LtW.of l3
  haveI : LtW e w := LtW.of l4
  go_enter Tryd.func24, Tryd.ntmps24
  go_wp2
  refine wp_loop_rounds 3 ?_
  rw [rounds_succ]
  go_wp2
  first | refine wp_region_under2 (by kernel_rfl) (by kernel_rfl) ?_ | refine wp_region_under (by kernel_rfl) (by kernel_rfl) ?_
  repeat (go_big_quiet_step (first | (fail)))
  refine wpQuiet_nil ?_
  rintro _ ⟨X, rfl⟩
  go_wp2
  refine wp_loop_rounds 3 ?_
  rw [rounds_succ]
  go_wp2
  first | refine wp_region_under2 (by kernel_rfl) (by kernel_rfl) ?_ | refine wp_region_under (by kernel_rfl) (by kernel_rfl) ?_
  repeat (go_big_quiet_step (first | (fail)))
  refine wpQuiet_nil ?_
  rintro _ ⟨X, rfl⟩
  go_wp2
  rw [rounds_succ]
  go_wp2
  first | refine wp_region_under2 (by kernel_rfl) (by kernel_rfl) ?_ | refine wp_region_under (by kernel_rfl) (by kernel_rfl) ?_
  repeat (go_big_quiet_step (first | (fail)))
  refine wpQuiet_nil ?_
  rintro _ ⟨X, rfl⟩
  go_wp2
  rw [rounds_succ]
  go_wp2
  rw [rounds_succ]
  go_wp2
  first | refine wp_region_under2 (by kernel_rfl) (by kernel_rfl) ?_ | refine wp_region_under (by kernel_rfl) (by kernel_rfl) ?_
  repeat (go_big_quiet_step (first | (fail)))
  refine wpQuiet_nil ?_
  rintro _ ⟨X, rfl⟩
  go_wp2
  refine wp_loop_rounds 1 ?_
  rw [rounds_succ]
  go_wp2
  rw [rounds_succ]
  go_wp2
  go_ret
  exact ⟨rfl, (by repeat (first | exact Und.refl _ | assumption | refine Und.under ?_ _ | refine Und.alloc ?_ _ | refine Und.drew ?_ | refine Und.drewN ?_ _))⟩

theorem own_two {w : World} {base a d c c2 : Nat} (h : w.ownsRow base 40 3 (.slice (some ⟨a, 0, none⟩) 2 c) 2 [.string sAnn, .int .i64 3, .slice (some ⟨d, 0, none⟩) 2 c2, .string sBob, .int .i64 1, .slice none 0 0])
    (hd : w.ownsRow base 3 1 (.slice (some ⟨d, 0, none⟩) 2 c2) 2 [.int .i64 0, .int .i64 2]) : Two w a d :=
  ⟨h.cellAt 0 (by omega), h.cellAt 1 (by omega), ⟨c2, h.cellAt 2 (by omega)⟩, h.cellAt 3 (by omega), h.cellAt 4 (by omega), h.cellAt 5 (by omega), hd.cellAt 0 (by omega), hd.cellAt 1 (by omega)⟩
theorem lit_two (w : World) (c : Nat) : Two ((w.alloc (.cells #[.int .i64 0, .int .i64 2] 3)).alloc (.cells #[.string sAnn, .int .i64 3, .slice (some ⟨w.heap.size, 0, none⟩) 2 c, .string sBob, .int .i64 1, .slice none 0 0] 40)) (w.heap.size + 1) w.heap.size := by
  refine ⟨?_, ?_, ⟨c, ?_⟩, ?_, ?_, ?_, ?_, ?_⟩ <;> go_simp

set_option maxRecDepth 20000 in
set_option maxHeartbeats 3200000 in
theorem known_any (m : Int) (w : World) (hm : w.cell? ⟨0, 0, none⟩ = some (.int .i64 m)) : Calls Tryd.prog 12 #[] w fun e w' => e = .returned (.bool true) ∧ Und w w' := by
  have HM := hid hm
  clear hm
  go_enter Tryd.func12, Tryd.ntmps12
  go_wp2_with fail
  refine (parse_known m w HM.out).mono ?_
  rintro e w1 ⟨v, d, rfl, ho, hd, u⟩
  obtain ⟨a, c, rfl, ha⟩ := own_form ho (by omega)
  obtain ⟨d, c2, rfl, _⟩ := own_form hd (by omega)
  have T := hid (own_two ho hd)
  have U := hid u
  clear ho hd u ha
  go_wp2_with fail
  refine (same_known a d (w1.heap.size + 1) w1.heap.size c 2 _ (T.out.und (by repeat (first | exact Und.refl _ | assumption | refine Und.under ?_ _ | refine Und.alloc ?_ _ | refine Und.drew ?_ | refine Und.drewN ?_ _))) (lit_two w1 2)).mono ?_
  rintro e w2 ⟨rfl, X2, rfl⟩
  go_wp2_with fail
  refine (may_ann2 a d c _ (T.out.und (by repeat (first | exact Und.refl _ | assumption | refine Und.under ?_ _ | refine Und.alloc ?_ _ | refine Und.drew ?_ | refine Und.drewN ?_ _)))).mono ?_
  rintro e w2 ⟨rfl, X3, rfl⟩
  go_wp2_with fail
  refine (may_ann1 a d c _ (T.out.und (by repeat (first | exact Und.refl _ | assumption | refine Und.under ?_ _ | refine Und.alloc ?_ _ | refine Und.drew ?_ | refine Und.drewN ?_ _)))).mono ?_
  rintro e w2 ⟨rfl, X4, rfl⟩
  go_wp2_with fail
  refine (may_eve a d c _ (T.out.und (by repeat (first | exact Und.refl _ | assumption | refine Und.under ?_ _ | refine Und.alloc ?_ _ | refine Und.drew ?_ | refine Und.drewN ?_ _)))).mono ?_
  rintro e w2 ⟨rfl, X5, rfl⟩
  go_wp2_with fail
  refine (allowed_any 2 6 _).mono ?_
  rw [show Ro.allowedI 2 6 = false by decide]
  rintro e w2 ⟨rfl, X6, rfl⟩
  go_wp2_with fail
  go_ret
  exact ⟨rfl, U.out.trans (by repeat (first | exact Und.refl _ | assumption | refine Und.under ?_ _ | refine Und.alloc ?_ _ | refine Und.drew ?_ | refine Und.drewN ?_ _))⟩
end Go.Proofs.YthgmlkeojhfijaaDoor
