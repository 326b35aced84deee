/- The contract of the laws' function 'some': a valid ratio made of two numbers. Condition: the size is from 1 to 2 to the 20. -/
import Derived.Test.YtoalkjfdddjjaaaDoorRatCmp
import Derived.Deep.RegionWith
namespace Go.Proofs.YtoalkjfdddjjaaaDoor
open Go.RowKit

namespace Rt
/-- q is a quotient of an integer of magnitude at most A by one from 1 to B. -/
def Sm (A B : Int) (q : Rat) : Prop := ∃ n d : Int, q = Rat.divInt n d ∧ -A ≤ n ∧ n ≤ A ∧ 1 ≤ d ∧ d ≤ B

theorem Sm.bd {A B : Int} {q : Rat} (h : Sm A B q) : -A ≤ q.num ∧ q.num ≤ A ∧ 1 ≤ (q.den : Int) ∧ (q.den : Int) ≤ B := by
  obtain ⟨n, d, rfl, h1, h2, h3, h4⟩ := h
  have hg1 := gcd_pos n d (by omega)
  obtain ⟨g, hg⟩ : ∃ g : Int, (Int.gcd n d : Int) = g := ⟨_, rfl⟩
  have e1 := num_pos (by omega) (by omega) hg
  have e2 := den_pos (by omega) (by omega) hg
  have b1 := tdiv_bd n g A (by omega) h1 h2
  have b2 := ediv_bd d g B (by omega) (by omega) h4
  have b3 := (Rat.divInt n d).den_pos
  rw [← e1] at b1
  rw [← e2] at b2
  omega
theorem Sm.ok {A B : Int} {q : Rat} (h : Sm A B q) (hA : A ≤ 1073741824) (hB : B ≤ 1073741824) : okR q = true := by
  have := h.bd
  unfold okR
  simp only [decide_eq_true_eq]
  omega
theorem sm_of {A B n d : Int} (h1 : -A ≤ n) (h2 : n ≤ A) (h3 : 1 ≤ d) (h4 : d ≤ B) : Sm A B (Rat.divInt n d) := ⟨n, d, rfl, h1, h2, h3, h4⟩

def someR (a b s : Int) : Rat := Rat.divInt (a.tmod s) (b % 18446744073709551616 % s + 1)
theorem tmod_bd (a s : Int) (h : 1 ≤ s) : -(s - 1) ≤ a.tmod s ∧ a.tmod s ≤ s - 1 := by
  have h1 := Int.lt_tmod_of_pos a (by omega : 0 < s)
  have h2 := Int.tmod_lt_of_pos a (by omega : 0 < s)
  omega
theorem someR_sm (a b s : Int) (h : 1 ≤ s) : Sm (s - 1) s (someR a b s) := by
  have h1 := tmod_bd a s h
  have h2 := Int.emod_nonneg (b % 18446744073709551616) (by omega : s ≠ 0)
  have h3 := Int.emod_lt_of_pos (b % 18446744073709551616) (by omega : 0 < s)
  exact sm_of (by omega) h1.2 (by omega) (by omega)
theorem fit_some {q : Rat} (h : okR q = true) : fit q = some q := by unfold fit; rw [if_pos h]
end Rt

/-- The value of a ratio. -/
def Rt.qv (q : Rat) : Value := .agg #[.int .i64 q.num, .int .i64 (q.den : Int)]
@[go_sem] theorem Rt.qv_def (q : Rat) : Rt.qv q = .agg #[.int .i64 q.num, .int .i64 (q.den : Int)] := rfl

theorem rmake_fit (n d : Int) (w : World) (h1 : -1048576 ≤ n) (h2 : n ≤ 1048576) (h3 : 1 ≤ d) (h4 : d ≤ 1048576) :
    Calls Tryd.prog 15 #[.int .i64 n, .int .i64 d] w fun e w' => e = .returned (.tuple #[.agg #[.int .i64 (Rat.divInt n d).num, .int .i64 (Rat.divInt n d).den], .bool true]) ∧ Und w w' := by
  have h := rmake_yes n d w (by omega) (by omega) (by omega) (by omega) (by omega)
  rw [Rt.fit_some ((Rt.sm_of h1 h2 h3 h4).ok (by omega) (by omega))] at h
  exact h

theorem some_core (a u v s : Int) (b : Int) (w : World) (h1 : 1 ≤ s) (h2 : s ≤ 1048576) (hu : IntKind.u64.wrap b = u) (hv : u.tmod s = v) (v1 : 0 ≤ v) (v2 : v < s)
    (e1 : IntKind.u64.wrap s = s) (e2 : IntKind.i64.wrap v = v) (e3 : IntKind.i64.wrap (v + 1) = v + 1) :
    Calls Tryd.prog 7 #[.int .i64 a, .int .i64 b, .int .i64 s] w fun e w' => e = .returned (Rt.qv (Rat.divInt (a.tmod s) (v + 1))) ∧ Und w w' := by
  have hs : ¬ s = 0 := by omega
  have ht := Rt.tmod_bd a s h1
  have HS := hid (show -1048576 ≤ a.tmod s ∧ a.tmod s ≤ 1048576 ∧ 1 ≤ v + 1 ∧ v + 1 ≤ 1048576 by omega)
  clear ht
  go_enter Tryd.func7, Tryd.ntmps7
  go_wp2_with fail
  go_region_with (go_at_call 15; refine (rmake_fit _ _ _ HS.out.1 HS.out.2.1 HS.out.2.2.1 HS.out.2.2.2).mono ?_; rintro e w' ⟨rfl, X, rfl⟩)
  all_goals go_wp2
  all_goals exact bodyPost_ret (v := Rt.qv (Rat.divInt (a.tmod s) (v + 1))) (by simp [results, Tryd.results7, go_sem]) rfl ⟨rfl, (by repeat (first | exact Und.refl _ | assumption | refine Und.under ?_ _ | refine Und.alloc ?_ _ | refine Und.drew ?_ | refine Und.drewN ?_ _))⟩

theorem some_any (a b s : Int) (w : World) (h1 : 1 ≤ s) (h2 : s ≤ 1048576) :
    Calls Tryd.prog 7 #[.int .i64 a, .int .i64 b, .int .i64 s] w fun e w' => e = .returned (Rt.qv (Rt.someR a b s)) ∧ Und w w' := by
  have hu : IntKind.u64.wrap b = b % 18446744073709551616 := by rw [IntKind.wrap_u64]
  have hu1 := Int.emod_nonneg b (by omega : (18446744073709551616 : Int) ≠ 0)
  have h3 := Int.emod_nonneg (b % 18446744073709551616) (by omega : s ≠ 0)
  have h4 := Int.emod_lt_of_pos (b % 18446744073709551616) (by omega : 0 < s)
  unfold Rt.someR
  exact some_core a _ _ s b w h1 h2 hu (Int.tmod_eq_emod_of_nonneg hu1) h3 h4 (IntWalk.u64_in _ (by omega)) (IntWalk.i64_in _ (by omega)) (IntWalk.i64_in _ (by omega))
end Go.Proofs.YtoalkjfdddjjaaaDoor
