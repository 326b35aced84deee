/- The contract of the law package's few: what it gives for any items. Condition: the list lies in memory. -/
import Derived.Test.YtiifjfbfkhhpeaaGreatDoorRefItem
import Derived.IntWalk
set_option linter.unusedVariables false
set_option linter.unusedSimpArgs false
namespace Go.Proofs.YtiifjfbfkhhpeaaGreatDoor
open Go.RowKit

theorem wrap_add (a b : Int) : wrap64 (wrap64 a + b) = wrap64 (a + b) := by unfold wrap64; omega
def FewRel (w : World) (f : List St.It) (s3 s7 : Value) (wr : World) : Prop := ∃ k : Nat, k ≤ f.length ∧ s7 = .int .i64 k ∧ s3 = .int .i64 (wrap64 (tot (f.take k) : Nat)) ∧ w = wr
set_option maxHeartbeats 3200000 in
theorem few_any (A : Option Addr) (n c : Nat) (f : List St.It) (w : World) (hn : f.length = n) (h : ItemsAt w A f) (hl : n ≤ 1000000000000000) :
    Calls Tryz.prog 8 #[.slice A n c] w fun e w' => e = .returned (.bool (decide (n ≤ 30) && decide (wrap64 (tot f : Nat) ≤ 500))) ∧ w = w' := by
  have H := hid h
  have HN := hid hn
  clear h hn
  go_enter Tryz.func8, Tryz.ntmps8
  go_wp2
  go_loopw [3, 7] (fun s3 s7 wr => FewRel w f s3 s7 wr) (fun _ s7 _ => n + 1 - (intOf s7).toNat)
  case atStart => exact ⟨0, by omega, rfl, by rw [show wrap64 ((tot (f.take 0) : Nat) : Int) = 0 by simp [tot, wrap64]], rfl⟩
  case round =>
    obtain ⟨k, hk, rfl, rfl, rfl⟩ := hrel
    have hN := HN.out
    by_cases hlt : k < n
    · have hlt2 : k < f.length := by omega
      obtain ⟨b, off, rfl, hb, hc⟩ := H.out (by omega)
      obtain ⟨c0, c1, c2⟩ := hc k hlt2
      have htk := tot_take f k hlt2
      generalize f[k] = x at c0 c1 c2 htk
      obtain ⟨kd, tx, id⟩ := x
      simp only at c0 c1 c2 htk
      have hxz : (⟨tx.toArray⟩ : ByteArray).size = tx.length := by show tx.toArray.size = _; simp
      have hw : wrap64 (wrap64 (tot (f.take k) : Nat) + (tx.length : Int)) = wrap64 (tot (f.take (k + 1)) : Nat) := by rw [wrap_add, htk]; congr 1
      have hw2 : IntKind.i64.wrap (wrap64 (tot (f.take k) : Nat) + (tx.length : Int)) = wrap64 (tot (f.take (k + 1)) : Nat) := by rw [IntWalk.i64_left, hw]
      have HW := hid hw
      haveI : LtW b w := LtW.of hb
      clear hc hlt2 htk
      generalize wrap64 (tot (f.take k) : Nat) = s at hw hw2 HW
      go_wp2
      exact ⟨⟨k + 1, by omega, congrArg (Value.int .i64) (by omega), by first | with_reducible rfl | exact congrArg (Value.int .i64) HW.out, rfl⟩, by simp [intOf]; omega⟩
    · have hkn : k = n := by omega
      subst hkn
      have hft : f.take k = f := List.take_of_length_le (by omega)
      rw [hft]
      clear hlt hft
      generalize hs : wrap64 (tot f : Nat) = s
      by_cases q1 : k ≤ 30
      · have y1 : (k : Int) ≤ 30 := by omega
        go_wp2
        go_ret
        exact ⟨ret_bool (by rw [hs, decide_eq_true q1]; exact (Bool.true_and _).symm), rfl⟩
      · have y1 : ¬ (k : Int) ≤ 30 := by omega
        go_wp2
        go_ret
        exact ⟨ret_bool (by first | with_reducible rfl | (rw [decide_eq_false q1]; exact (Bool.false_and _).symm)), rfl⟩
theorem few_true {f : List St.It} {n : Nat} (hn : f.length = n) (h1 : n ≤ 30) (h2 : wrap64 (tot f : Nat) ≤ 500) (h : ∀ y ∈ f, y.2.1.length ≤ 140737488355327) : tot f ≤ 500 := by
  have hb : ∀ l : List St.It, (∀ y ∈ l, y.2.1.length ≤ 140737488355327) → tot l ≤ 140737488355327 * l.length := by
    intro l
    induction l with
    | nil => intro _; simp [tot]
    | cons x l ih =>
      intro hl
      have e : tot (x :: l) = x.2.1.length + tot l := by simp [tot]
      have h1 := ih fun y hy => hl y (by simp [hy])
      have h2 := hl x (by simp)
      rw [e, List.length_cons]; omega
  have := hb f h
  have h3 : tot f ≤ 140737488355327 * 30 := Nat.le_trans this (Nat.mul_le_mul_left _ (by omega))
  unfold wrap64 at h2
  omega
end Go.Proofs.YtiifjfbfkhhpeaaGreatDoor
