/- The contracts of IsName of package class and of its reference. Condition: the string is no longer than a string can be. -/
import Derived.Test.YthoemdibbldndaaGreatDoorRows
import Derived.Test.YthoemdibbldndaaGreatDoorUnder
import Derived.Test.YthoemdibbldndaaGreatDoorBas
import Derived.Outline
set_option linter.unusedVariables false
set_option linter.unusedSimpArgs false
namespace Go.Proofs.YthoemdibbldndaaGreatDoor
open Go.RowKit

def NameRel (s : ByteArray) (lo : Nat) (i : Value) : Prop := ∃ k : Nat, lo ≤ k ∧ k ≤ s.size ∧ i = .int .i64 k ∧ St.isNameL s.data.toList = (s.data.toList.drop k).all St.nameC

set_option maxHeartbeats 1600000 in
theorem isname_any (s : ByteArray) (w : World) (hs : s.size ≤ 9223372036854775807) : Calls Tryz.prog 149 #[.string s] w fun e w' => e = .returned (.bool (St.isNameL s.data.toList)) ∧ w = w' := by
  by_cases h0 : s.size = 0
  · rw [St.name_empty s h0]
    have z : (s.size : Int) < 1 := by omega
    clear h0
    go_enter Tryz.func149, Tryz.ntmps149
    go_wp2
    go_ret
    exact ⟨rfl, rfl⟩
  by_cases h1 : 24 < s.size
  · rw [St.name_long s h1]
    have z : ¬ (s.size : Int) < 1 := by omega
    have z1 : 24 < (s.size : Int) := by omega
    clear h0
    go_enter Tryz.func149, Tryz.ntmps149
    go_wp2
    go_ret
    exact ⟨rfl, rfl⟩
  have hp : 0 < s.size := by omega
  have z : ¬ (s.size : Int) < 1 := by omega
  have z1 : ¬ 24 < (s.size : Int) := by omega
  by_cases hc : 97 ≤ s[0].toNat ∧ s[0].toNat ≤ 122
  · have z2 : ¬ (s[0].toNat : Int) < 97 := by omega
    have z3 : ¬ 122 < (s[0].toNat : Int) := by omega
    have hrest := St.name_rest s hp (by omega) (by unfold St.lowC; exact decide_eq_true hc)
    have HR := hid hrest
    clear hrest h0 h1 hc
    go_enter Tryz.func149, Tryz.ntmps149
    go_wp2
    go_loop [3] (fun i => NameRel s 1 i) (fun i => s.size - (intOf i).toNat)
    case atStart => exact ⟨1, by omega, by omega, rfl, HR.out⟩
    case round =>
      obtain ⟨k, hk1, hk, rfl, H⟩ := hrel
      have HH := hid H
      clear H
      by_cases hlt : k < s.size
      · have hstep := hid (St.all_step s k hlt)
        rcases (show (97 ≤ s[k].toNat ∧ s[k].toNat ≤ 122) ∨ (48 ≤ s[k].toNat ∧ s[k].toNat ≤ 57) ∨ s[k].toNat = 45 ∨ (s[k].toNat < 48 ∧ s[k].toNat ≠ 45) ∨ (58 ≤ s[k].toNat ∧ s[k].toNat < 97) ∨ 122 < s[k].toNat by omega) with c | c | c | c | c | c
        · have HC := hid c
          have y1 : 97 ≤ (s[k].toNat : Int) := by omega
          have y2 : (s[k].toNat : Int) ≤ 122 := by omega
          clear c
          go_wp2
          go_round
          case rel => exact ⟨k + 1, by omega, by omega, by go_num, by rw [HH.out, hstep.out]; have := HC.out; simp [St.nameC, this]⟩
          case measure => simp [intOf]; omega
        · have HC := hid c
          have y1 : 48 ≤ (s[k].toNat : Int) := by omega
          have y2 : (s[k].toNat : Int) ≤ 57 := by omega
          clear c
          go_wp2
          go_round
          case rel => exact ⟨k + 1, by omega, by omega, by go_num, by rw [HH.out, hstep.out]; have := HC.out; simp [St.nameC, this]⟩
          case measure => simp [intOf]; omega
        · have HC := hid c
          have y1 : ¬ 48 ≤ (s[k].toNat : Int) := by omega
          have y2 : ¬ 97 ≤ (s[k].toNat : Int) := by omega
          have y3 : ((s[k].toNat : Int) == 45) = true := by simp; omega
          clear c
          go_wp2
          go_round
          case rel => exact ⟨k + 1, by omega, by omega, by go_num, by rw [HH.out, hstep.out]; have := HC.out; simp [St.nameC, this]⟩
          case measure => simp [intOf]; omega
        · have HC := hid c
          have y1 : ¬ 48 ≤ (s[k].toNat : Int) := by omega
          have y2 : ¬ 97 ≤ (s[k].toNat : Int) := by omega
          have y3 : ((s[k].toNat : Int) == 45) = false := by simp; omega
          clear c
          go_wp2
          go_ret
          exact ⟨ret_bool (by rw [HH.out, hstep.out]; have e : St.nameC s[k] = false := decide_eq_false (by have := HC.out; omega); rw [e]; rfl), rfl⟩
        · have HC := hid c
          have y1 : 48 ≤ (s[k].toNat : Int) := by omega
          have y2 : ¬ 97 ≤ (s[k].toNat : Int) := by omega
          have y4 : ¬ (s[k].toNat : Int) ≤ 57 := by omega
          have y3 : ((s[k].toNat : Int) == 45) = false := by simp; omega
          clear c
          go_wp2
          go_ret
          exact ⟨ret_bool (by rw [HH.out, hstep.out]; have e : St.nameC s[k] = false := decide_eq_false (by have := HC.out; omega); rw [e]; rfl), rfl⟩
        · have HC := hid c
          have y1 : 97 ≤ (s[k].toNat : Int) := by omega
          have y2 : ¬ (s[k].toNat : Int) ≤ 122 := by omega
          have y4 : ¬ (s[k].toNat : Int) ≤ 57 := by omega
          have y5 : 48 ≤ (s[k].toNat : Int) := by omega
          have y3 : ((s[k].toNat : Int) == 45) = false := by simp; omega
          clear c
          go_wp2
          go_ret
          exact ⟨ret_bool (by rw [HH.out, hstep.out]; have e : St.nameC s[k] = false := decide_eq_false (by have := HC.out; omega); rw [e]; rfl), rfl⟩
      · obtain rfl : k = s.size := by omega
        clear hlt
        go_wp2
        go_ret
        exact ⟨ret_bool (by rw [HH.out, St.drop_all s _ (Nat.le_refl _)]; rfl), rfl⟩
  · rw [St.name_head s hp (by unfold St.lowC; exact decide_eq_false hc)]
    rcases (show s[0].toNat < 97 ∨ (97 ≤ s[0].toNat ∧ 122 < s[0].toNat) by omega) with c | ⟨c, c'⟩
    · have z2 : (s[0].toNat : Int) < 97 := by omega
      clear h0 h1 hc c
      go_enter Tryz.func149, Tryz.ntmps149
      go_wp2
      go_ret
      exact ⟨rfl, rfl⟩
    · have z2 : ¬ (s[0].toNat : Int) < 97 := by omega
      have z3 : 122 < (s[0].toNat : Int) := by omega
      clear h0 h1 hc c c'
      go_enter Tryz.func149, Tryz.ntmps149
      go_wp2
      go_ret
      exact ⟨rfl, rfl⟩

def NameRel0 (s : ByteArray) (i : Value) : Prop := ∃ k : Nat, k ≤ s.size ∧ i = .int .i64 k ∧ (k = 0 ∨ St.isNameL s.data.toList = (s.data.toList.drop k).all St.nameC)

set_option maxHeartbeats 3200000 in
theorem risname_any (s : ByteArray) (w : World) (hs : s.size ≤ 9223372036854775807) : Calls Tryz.prog 177 #[.string s] w fun e w' => e = .returned (.bool (St.isNameL s.data.toList)) ∧ w = w' := by
  by_cases h0 : s.size = 0
  · rw [St.name_empty s h0]
    have z : (s.size : Int) < 1 := by omega
    clear h0
    go_enter Tryz.func177, Tryz.ntmps177
    go_wp2
    go_ret
    exact ⟨rfl, rfl⟩
  by_cases h1 : 24 < s.size
  · rw [St.name_long s h1]
    have z : ¬ (s.size : Int) < 1 := by omega
    have z1 : 24 < (s.size : Int) := by omega
    clear h0
    go_enter Tryz.func177, Tryz.ntmps177
    go_wp2
    go_ret
    exact ⟨rfl, rfl⟩
  have hp : 0 < s.size := by omega
  have z : ¬ (s.size : Int) < 1 := by omega
  have z1 : ¬ 24 < (s.size : Int) := by omega
  have h24 : s.size ≤ 24 := by omega
  clear h0 h1
  go_enter Tryz.func177, Tryz.ntmps177
  go_wp2
  go_loop [3] (fun i => NameRel0 s i) (fun i => s.size - (intOf i).toNat)
  case atStart => exact ⟨0, by omega, rfl, Or.inl rfl⟩
  case round =>
    obtain ⟨k, hk, rfl, H⟩ := hrel
    by_cases hk0 : k = 0
    · subst hk0
      clear H
      by_cases hc : 97 ≤ s[0].toNat ∧ s[0].toNat ≤ 122
      · have z2 : 97 ≤ (s[0].toNat : Int) := by omega
        have z3 : (s[0].toNat : Int) ≤ 122 := by omega
        have HR := hid (St.name_rest s hp h24 (by unfold St.lowC; exact decide_eq_true hc))
        clear hc
        go_wp2
        go_round
        case rel => exact ⟨1, by omega, rfl, Or.inr HR.out⟩
        case measure => simp [intOf]; omega
      · have HR := hid (St.name_head s hp (by unfold St.lowC; exact decide_eq_false hc))
        rcases (show s[0].toNat < 97 ∨ (97 ≤ s[0].toNat ∧ 122 < s[0].toNat) by omega) with c | ⟨c, c'⟩
        · have z2 : ¬ 97 ≤ (s[0].toNat : Int) := by omega
          clear c hc
          go_wp2
          go_ret
          exact ⟨ret_bool HR.out.symm, rfl⟩
        · have z2 : 97 ≤ (s[0].toNat : Int) := by omega
          have z3 : ¬ (s[0].toNat : Int) ≤ 122 := by omega
          clear c c' hc
          go_wp2
          go_ret
          exact ⟨ret_bool HR.out.symm, rfl⟩
    · have HH := hid (H.resolve_left hk0)
      clear H
      have hk1 : 0 < (k : Int) := by omega
      have hk1' : 0 < k := by omega
      clear hk0
      by_cases hlt : k < s.size
      · have hstep := hid (St.all_step s k hlt)
        rcases (show (97 ≤ s[k].toNat ∧ s[k].toNat ≤ 122) ∨ (48 ≤ s[k].toNat ∧ s[k].toNat ≤ 57) ∨ s[k].toNat = 45 ∨ (s[k].toNat < 48 ∧ s[k].toNat ≠ 45) ∨ (58 ≤ s[k].toNat ∧ s[k].toNat < 97) ∨ 122 < s[k].toNat by omega) with c | c | c | c | c | c
        · have HC := hid c
          have y1 : 97 ≤ (s[k].toNat : Int) := by omega
          have y2 : (s[k].toNat : Int) ≤ 122 := by omega
          clear c
          go_wp2
          go_round
          case rel => exact ⟨k + 1, by omega, by go_num, Or.inr <| by rw [HH.out, hstep.out]; have := HC.out; simp [St.nameC, this]⟩
          case measure => simp [intOf]; omega
        · have HC := hid c
          have y1 : 48 ≤ (s[k].toNat : Int) := by omega
          have y2 : (s[k].toNat : Int) ≤ 57 := by omega
          clear c
          go_wp2
          go_round
          case rel => exact ⟨k + 1, by omega, by go_num, Or.inr <| by rw [HH.out, hstep.out]; have := HC.out; simp [St.nameC, this]⟩
          case measure => simp [intOf]; omega
        · have HC := hid c
          have y1 : ¬ 48 ≤ (s[k].toNat : Int) := by omega
          have y2 : ¬ 97 ≤ (s[k].toNat : Int) := by omega
          have y3 : ((s[k].toNat : Int) == 45) = true := by simp; omega
          clear c
          go_wp2
          go_round
          case rel => exact ⟨k + 1, by omega, by go_num, Or.inr <| by rw [HH.out, hstep.out]; have := HC.out; simp [St.nameC, this]⟩
          case measure => simp [intOf]; omega
        · have HC := hid c
          have y1 : ¬ 48 ≤ (s[k].toNat : Int) := by omega
          have y2 : ¬ 97 ≤ (s[k].toNat : Int) := by omega
          have y3 : ((s[k].toNat : Int) == 45) = false := by simp; omega
          clear c
          go_wp2
          go_ret
          exact ⟨ret_bool (by rw [HH.out, hstep.out]; have e : St.nameC s[k] = false := decide_eq_false (by have := HC.out; omega); rw [e]; rfl), rfl⟩
        · have HC := hid c
          have y1 : 48 ≤ (s[k].toNat : Int) := by omega
          have y2 : ¬ 97 ≤ (s[k].toNat : Int) := by omega
          have y4 : ¬ (s[k].toNat : Int) ≤ 57 := by omega
          have y3 : ((s[k].toNat : Int) == 45) = false := by simp; omega
          clear c
          go_wp2
          go_ret
          exact ⟨ret_bool (by rw [HH.out, hstep.out]; have e : St.nameC s[k] = false := decide_eq_false (by have := HC.out; omega); rw [e]; rfl), rfl⟩
        · have HC := hid c
          have y1 : 97 ≤ (s[k].toNat : Int) := by omega
          have y2 : ¬ (s[k].toNat : Int) ≤ 122 := by omega
          have y4 : ¬ (s[k].toNat : Int) ≤ 57 := by omega
          have y5 : 48 ≤ (s[k].toNat : Int) := by omega
          have y3 : ((s[k].toNat : Int) == 45) = false := by simp; omega
          clear c
          go_wp2
          go_ret
          exact ⟨ret_bool (by rw [HH.out, hstep.out]; have e : St.nameC s[k] = false := decide_eq_false (by have := HC.out; omega); rw [e]; rfl), rfl⟩
      · obtain rfl : k = s.size := by omega
        clear hlt
        go_wp2
        go_ret
        exact ⟨ret_bool (by rw [HH.out, St.drop_all s _ (Nat.le_refl _)]; rfl), rfl⟩
end Go.Proofs.YthoemdibbldndaaGreatDoor
