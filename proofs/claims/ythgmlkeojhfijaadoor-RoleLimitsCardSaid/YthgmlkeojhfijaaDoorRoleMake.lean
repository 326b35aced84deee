/- The contracts of the laws' long and of the number makers Next, from. Conditions: as each says. -/
import Derived.Test.YthgmlkeojhfijaaDoorRoleMay
import Derived.Test.YthgmlkeojhfijaaDoorMkPlace
import Derived.LoopN
namespace Go.Proofs.YthgmlkeojhfijaaDoor
open Go.RowKit

set_option maxHeartbeats 1600000 in
theorem long_any (A : Option Addr) (n c b : Nat) (w : World) (hn : n ≤ 9223372036854775807) (h : w.cell? ⟨b, 0, none⟩ = some (.slice A n c)) :
    Calls Tryd.prog 13 #[.slice (some ⟨b, 0, none⟩) 1 1] w fun e w' => e = .returned (.bool (decide (160 < n))) ∧ w = w' := by
  go_enter Tryd.func13, Tryd.ntmps13
  go_wp2
  refine wp_loop_rounds 2 ?_
  rw [rounds_succ]
  go_wp2
  rw [rounds_succ]
  go_wp2
  go_ret
  refine ⟨ret_bool ?_, rfl⟩
  rw [decide_eq_decide]; omega

/-- A maker of numbers in memory: block g holds the list and the place. -/
def GenAt (w : World) (g : Nat) (A : Option Addr) (n c : Nat) (p : Int) : Prop :=
  w.cell? ⟨g, 0, none⟩ = some (.slice A n c) ∧ w.cell? ⟨g, 1, none⟩ = some (.int .i64 p) ∧ w.frozen? ⟨g, 1, none⟩ = false

set_option maxHeartbeats 3200000 in
theorem next_any (A : Option Addr) (n c g : Nat) (p m : Int) (zs : List Int) (w : World) (hG : GenAt w g A n c p) (hp : 0 ≤ p) (hp2 : p ≤ 4611686018427387904) (hz : zs.length = n) (hI : IntsAt w A zs) (h1 : 1 ≤ m) (h2 : m ≤ 4611686018427387904) :
    Calls Tryd.prog 27 #[.pointer (some ⟨g, 0, none⟩), .int .i64 m] w fun e w' => ∃ (r : Int) (X : World), e = .returned (.int .i64 r) ∧ 0 ≤ r ∧ r < m ∧ w' = under (w.setCell ⟨g, 1, none⟩ (.int .i64 (p + 1))) X := by
  have hg := World.block_lt_of_cell? _ _ hG.1
  obtain ⟨g0, g1, g2⟩ := hG
  have H := hid hI
  clear hI
  haveI : LtW g w := LtW.of hg
  obtain ⟨k, rfl⟩ : ∃ k : Nat, p = k := ⟨p.toNat, by omega⟩
  by_cases hlt : k < n
  · obtain ⟨b, off, rfl, hb, hc⟩ := H.out (by omega)
    have hck := hc k (by omega)
    generalize zs.getD k 0 = z at hck
    clear hc
    haveI : LtW b w := LtW.of hb
    go_enter Tryd.func27, Tryd.ntmps27
    go_wp2_with fail
    first | refine wp_region_under2 (by kernel_rfl) (by kernel_rfl) ?_ | refine wp_region_under (by kernel_rfl) (by kernel_rfl) ?_
    repeat (go_big_quiet_step (first | (fail)))
    refine wpQuiet_nil ?_
    rintro _ ⟨X, rfl⟩
    go_wp2_with fail
    first | refine wp_region_under2 (by kernel_rfl) (by kernel_rfl) ?_ | refine wp_region_under (by kernel_rfl) (by kernel_rfl) ?_
    repeat (go_big_quiet_step (first | (fail)))
    refine wpQuiet_nil ?_
    rintro _ ⟨X, rfl⟩
    go_wp2_with (go_at_call 9; refine (place_any _ _ _ h1 h2).mono ?_; rintro e w' ⟨rfl, rfl⟩)
    go_ret
    exact ⟨_, _, rfl, Int.emod_nonneg _ (by omega), Int.emod_lt_of_pos _ (by omega), rfl⟩
  · go_enter Tryd.func27, Tryd.ntmps27
    go_wp2_with fail
    first | refine wp_region_under2 (by kernel_rfl) (by kernel_rfl) ?_ | refine wp_region_under (by kernel_rfl) (by kernel_rfl) ?_
    repeat (go_big_quiet_step (first | (fail)))
    refine wpQuiet_nil ?_
    rintro _ ⟨X, rfl⟩
    go_wp2_with (go_at_call 9; refine (place_any _ _ _ h1 h2).mono ?_; rintro e w' ⟨rfl, rfl⟩)
    go_ret
    exact ⟨0, _, rfl, by omega, by omega, rfl⟩

theorem from_any (A : Option Addr) (n c : Nat) (w : World) :
    Calls Tryd.prog 26 #[.slice A n c] w fun e w' => e = .returned (.pointer (some ⟨w.heap.size, 0, none⟩)) ∧ w' = w.alloc (.cells #[.slice A n c, .int .i64 0] 73) := by
  go_enter Tryd.func26, Tryd.ntmps26
  go_wp2
  go_ret
  exact ⟨rfl, rfl⟩

def BigRel (w : World) (n : Nat) (v i : Value) (wr : World) : Prop := ∃ (k : Nat) (q : Int), k ≤ n ∧ v = .int .i64 q ∧ i = .int .i64 k ∧ Und w wr

set_option maxHeartbeats 3200000 in
theorem big_any (A : Option Addr) (n c : Nat) (us : List UserD) (w : World) (hn : us.length = n) (hnc : n ≤ c) (hc63 : c ≤ 9223372036854775807) (h : UsersAt w A us) :
    Calls Tryd.prog 14 #[.slice A n c] w fun e w' => ∃ r, e = .returned (.bool r) ∧ Und w w' := by
  have H := hid h
  clear h
  go_enter Tryd.func14, Tryd.ntmps14
  go_wp2
  go_loopw [3, 10] (fun v i wr => BigRel w n v i wr) (fun _ i _ => n + 1 - (intOf i).toNat)
  case atStart => exact ⟨0, _, by omega, rfl, rfl, Und.refl _⟩
  case round =>
    obtain ⟨k, q, hk, rfl, rfl, u⟩ := hrel
    by_cases hlt : k < n
    · obtain ⟨b, off, rfl, hb, hcs⟩ := (H.out.und u) (by omega)
      obtain ⟨D, c2, h1, h2, h3, _, h5, h6⟩ := hcs k (by omega)
      generalize us[k]'(by omega) = x at h1 h2 h3 h5 h6
      obtain ⟨nm, r, zs⟩ := x
      have U := hid u
      clear hcs u
      simp only at h1 h2 h3 h5 h6
      haveI : LtW b wr := LtW.of hb
      go_wp2
      refine ⟨⟨k + 1, _, by omega, rfl, rfl, U.out.trans (by repeat (first | exact Und.refl _ | assumption | refine Und.under ?_ _ | refine Und.alloc ?_ _ | refine Und.drew ?_ | refine Und.drewN ?_ _))⟩, by simp [intOf]; omega⟩
    · have hk' : k = n := by omega
      subst hk'
      go_wp2
      go_ret
      exact ⟨_, rfl, u⟩
end Go.Proofs.YthgmlkeojhfijaaDoor
