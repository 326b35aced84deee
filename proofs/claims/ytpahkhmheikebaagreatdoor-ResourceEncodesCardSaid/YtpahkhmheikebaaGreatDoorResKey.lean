/- The contracts of resource's key and end, and of the reference's keyByte, lineEnd, hasKey. Condition: the text is no longer than a text can be. -/
import Derived.Test.YtpahkhmheikebaaGreatDoorResSplPl
import Derived.Test.YtpahkhmheikebaaGreatDoorPart
import Derived.IntWalk
namespace Go.Proofs.YtpahkhmheikebaaGreatDoor
open Go.RowKit

namespace St
theorem keyN_nil : keyN [] = 0 := rfl
theorem keyN_no {c : UInt8} {r : List UInt8} (h : keyC c = false) : keyN (c :: r) = 0 := by unfold keyN; rw [List.takeWhile_cons_of_neg (by simp [h])]; rfl
theorem keyN_yes {c : UInt8} {r : List UInt8} (h : keyC c = true) : keyN (c :: r) = 1 + keyN r := by unfold keyN; rw [List.takeWhile_cons_of_pos h, List.length_cons]; omega
theorem endN_10 {c : UInt8} {r : List UInt8} (h : c.toNat = 10) : endN (c :: r) = 0 := by rw [endN.eq_def]; simp only []; rw [if_pos h]
theorem endN_1 {c : UInt8} (h : c.toNat = 92) : endN [c] = 1 := by rw [endN.eq_def]; simp only []; rw [if_neg (by omega), if_pos h]
theorem endN_2 {c x : UInt8} {r : List UInt8} (h : c.toNat = 92) : endN (c :: x :: r) = 2 + endN r := by rw [endN.eq_def]; simp only []; rw [if_neg (by omega), if_pos h]
theorem endN_e {c : UInt8} {r : List UInt8} (h : c.toNat ≠ 10) (h2 : c.toNat ≠ 92) : endN (c :: r) = 1 + endN r := by rw [endN.eq_def]; simp only []; rw [if_neg h, if_neg h2]
theorem lineN_10 {c : UInt8} {r : List UInt8} (h : c.toNat = 10) : lineN (c :: r) = 0 := by unfold lineN; rw [List.takeWhile_cons_of_neg (by simp [h])]; rfl
theorem lineN_e {c : UInt8} {r : List UInt8} (h : c.toNat ≠ 10) : lineN (c :: r) = 1 + lineN r := by unfold lineN; rw [List.takeWhile_cons_of_pos (by simpa using h), List.length_cons]; omega
end St
def KyRel (s : ByteArray) (s3 : Value) : Prop := ∃ k : Nat, s3 = .int .i64 k ∧ k ≤ 65 ∧ k ≤ s.size ∧ St.keyN s.data.toList = k + St.keyN (s.data.toList.drop k)
set_option maxRecDepth 20000 in
set_option maxHeartbeats 3200000 in
theorem key_any (s : ByteArray) (w : World) (hs : s.size ≤ 4611686018427387904) : Calls Tryz.prog 44 #[.string s] w fun e w' => e = .returned (.int .i64 ((min (St.keyN s.data.toList) 65 : Nat) : Int)) ∧ w = w' := by
  go_enter Tryz.func44, Tryz.ntmps44
  go_wp2
  go_loop [3] (fun i => KyRel s i) (fun i => 66 - (intOf i).toNat)
  case atStart => exact ⟨0, rfl, by omega, by omega, by simp⟩
  case round =>
    obtain ⟨k, rfl, h1, h2, h3⟩ := hrel
    have HK := hid h3
    clear h3
    by_cases hlt : k < s.size
    · have z : (k : Int) < s.size := by omega
      by_cases h65 : k < 65
      · have z2 : (k : Int) < 65 := by omega
        have hcons := St.drop_at s k hlt
        rcases (show (97 ≤ s[k].toNat ∧ s[k].toNat ≤ 122) ∨ (48 ≤ s[k].toNat ∧ s[k].toNat ≤ 57) ∨ (s[k].toNat = 46) ∨ (s[k].toNat = 95) ∨ (s[k].toNat = 45) ∨ (s[k].toNat < 45 ∨ s[k].toNat = 47) ∨ (58 ≤ s[k].toNat ∧ s[k].toNat < 97 ∧ s[k].toNat ≠ 95) ∨ (122 < s[k].toNat) by omega) with hc | hc | hc | hc | hc | hc | hc | hc
        · have hk : St.keyC s[k] = true := decide_eq_true (by omega)
          have y0 : 97 ≤ (s[k].toNat : Int) := by omega
          have y1 : (s[k].toNat : Int) ≤ 122 := by omega
          clear hc
          have HE := hid (show St.keyN s.data.toList = k + 1 + St.keyN (s.data.toList.drop (k + 1)) by rw [HK.out, hcons, St.keyN_yes hk]; omega)
          clear hcons hk
          go_wp2
          go_round
          case rel => exact ⟨k + 1, by go_num, by omega, by omega, HE.out⟩
          case measure => simp [intOf]; omega
        · have hk : St.keyC s[k] = true := decide_eq_true (by omega)
          have y0 : ¬ 97 ≤ (s[k].toNat : Int) := by omega
          have y1 : 48 ≤ (s[k].toNat : Int) := by omega
          have y2 : (s[k].toNat : Int) ≤ 57 := by omega
          clear hc
          have HE := hid (show St.keyN s.data.toList = k + 1 + St.keyN (s.data.toList.drop (k + 1)) by rw [HK.out, hcons, St.keyN_yes hk]; omega)
          clear hcons hk
          go_wp2
          go_round
          case rel => exact ⟨k + 1, by go_num, by omega, by omega, HE.out⟩
          case measure => simp [intOf]; omega
        · have hk : St.keyC s[k] = true := decide_eq_true (by omega)
          have y0 : ¬ 97 ≤ (s[k].toNat : Int) := by omega
          have y1 : ¬ 48 ≤ (s[k].toNat : Int) := by omega
          have y2 : ((s[k].toNat : Int) == 46) = true := by simp; omega
          clear hc
          have HE := hid (show St.keyN s.data.toList = k + 1 + St.keyN (s.data.toList.drop (k + 1)) by rw [HK.out, hcons, St.keyN_yes hk]; omega)
          clear hcons hk
          go_wp2
          go_round
          case rel => exact ⟨k + 1, by go_num, by omega, by omega, HE.out⟩
          case measure => simp [intOf]; omega
        · have hk : St.keyC s[k] = true := decide_eq_true (by omega)
          have y0 : ¬ 97 ≤ (s[k].toNat : Int) := by omega
          have y1 : 48 ≤ (s[k].toNat : Int) := by omega
          have y2 : ¬ (s[k].toNat : Int) ≤ 57 := by omega
          have y3 : ((s[k].toNat : Int) == 46) = false := by simp; omega
          have y4 : ((s[k].toNat : Int) == 95) = true := by simp; omega
          clear hc
          have HE := hid (show St.keyN s.data.toList = k + 1 + St.keyN (s.data.toList.drop (k + 1)) by rw [HK.out, hcons, St.keyN_yes hk]; omega)
          clear hcons hk
          go_wp2
          go_round
          case rel => exact ⟨k + 1, by go_num, by omega, by omega, HE.out⟩
          case measure => simp [intOf]; omega
        · have hk : St.keyC s[k] = true := decide_eq_true (by omega)
          have y0 : ¬ 97 ≤ (s[k].toNat : Int) := by omega
          have y1 : ¬ 48 ≤ (s[k].toNat : Int) := by omega
          have y2 : ((s[k].toNat : Int) == 46) = false := by simp; omega
          have y3 : ((s[k].toNat : Int) == 95) = false := by simp; omega
          have y4 : ((s[k].toNat : Int) == 45) = true := by simp; omega
          clear hc
          have HE := hid (show St.keyN s.data.toList = k + 1 + St.keyN (s.data.toList.drop (k + 1)) by rw [HK.out, hcons, St.keyN_yes hk]; omega)
          clear hcons hk
          go_wp2
          go_round
          case rel => exact ⟨k + 1, by go_num, by omega, by omega, HE.out⟩
          case measure => simp [intOf]; omega
        · have hk : St.keyC s[k] = false := decide_eq_false (by omega)
          have y0 : ¬ 97 ≤ (s[k].toNat : Int) := by omega
          have y1 : ¬ 48 ≤ (s[k].toNat : Int) := by omega
          have y2 : ((s[k].toNat : Int) == 46) = false := by simp; omega
          have y3 : ((s[k].toNat : Int) == 95) = false := by simp; omega
          have y4 : ((s[k].toNat : Int) == 45) = false := by simp; omega
          clear hc
          have HE := hid (show min (St.keyN s.data.toList) 65 = k by rw [HK.out, hcons, St.keyN_no hk]; omega)
          clear hcons hk
          go_wp2
          go_ret
          exact ⟨ret_int (by rw [HE.out]), rfl⟩
        · have hk : St.keyC s[k] = false := decide_eq_false (by omega)
          have y0 : ¬ 97 ≤ (s[k].toNat : Int) := by omega
          have y1 : 48 ≤ (s[k].toNat : Int) := by omega
          have y2 : ¬ (s[k].toNat : Int) ≤ 57 := by omega
          have y3 : ((s[k].toNat : Int) == 46) = false := by simp; omega
          have y4 : ((s[k].toNat : Int) == 95) = false := by simp; omega
          have y5 : ((s[k].toNat : Int) == 45) = false := by simp; omega
          clear hc
          have HE := hid (show min (St.keyN s.data.toList) 65 = k by rw [HK.out, hcons, St.keyN_no hk]; omega)
          clear hcons hk
          go_wp2
          go_ret
          exact ⟨ret_int (by rw [HE.out]), rfl⟩
        · have hk : St.keyC s[k] = false := decide_eq_false (by omega)
          have y0 : 97 ≤ (s[k].toNat : Int) := by omega
          have y1 : ¬ (s[k].toNat : Int) ≤ 122 := by omega
          have y2 : 48 ≤ (s[k].toNat : Int) := by omega
          have y3 : ¬ (s[k].toNat : Int) ≤ 57 := by omega
          have y4 : ((s[k].toNat : Int) == 46) = false := by simp; omega
          have y5 : ((s[k].toNat : Int) == 95) = false := by simp; omega
          have y6 : ((s[k].toNat : Int) == 45) = false := by simp; omega
          clear hc
          have HE := hid (show min (St.keyN s.data.toList) 65 = k by rw [HK.out, hcons, St.keyN_no hk]; omega)
          clear hcons hk
          go_wp2
          go_ret
          exact ⟨ret_int (by rw [HE.out]), rfl⟩
      · obtain rfl : k = 65 := by omega
        have HE := hid (show min (St.keyN s.data.toList) 65 = 65 by rw [HK.out]; omega)
        clear h65
        go_wp2
        go_ret
        exact ⟨ret_int (by rw [HE.out]; rfl), rfl⟩
    · obtain rfl : k = s.size := by omega
      have HE := hid (show min (St.keyN s.data.toList) 65 = s.size by rw [HK.out, List.drop_of_length_le (by simp), St.keyN_nil]; omega)
      clear hlt
      go_wp2
      go_ret
      exact ⟨ret_int (by rw [HE.out]), rfl⟩
/-- At an offset of a text whose raw value ends at T. -/
def EdRel (d : ByteArray) (T : Nat) (s1 : Value) : Prop := ∃ k : Nat, s1 = .int .i64 k ∧ ((k ≤ d.size ∧ k + St.endN (d.data.toList.drop k) = T) ∨ (k = d.size + 1 ∧ T = d.size))
set_option maxRecDepth 20000 in
set_option maxHeartbeats 3200000 in
theorem end_any (d : ByteArray) (a : Nat) (w : World) (hd : d.size ≤ 4611686018427387904) (ha : a ≤ d.size) : Calls Tryz.prog 45 #[.string d, .int .i64 a] w fun e w' => e = .returned (.int .i64 ((a + St.endN (d.data.toList.drop a) : Nat) : Int)) ∧ w = w' := by
  obtain ⟨T, hT⟩ : ∃ T, a + St.endN (d.data.toList.drop a) = T := ⟨_, rfl⟩
  have hTl : T ≤ d.size := by have := St.endN_le (d.data.toList.drop a); simp at this; omega
  rw [hT]
  go_enter Tryz.func45, Tryz.ntmps45
  go_wp2
  go_loop [1] (fun i => EdRel d T i) (fun i => d.size + 2 - (intOf i).toNat)
  case atStart => exact ⟨a, rfl, .inl ⟨ha, hT⟩⟩
  case round =>
    clear hT
    obtain ⟨k, rfl, ⟨hk, h3⟩ | ⟨rfl, rfl⟩⟩ := hrel
    · have HK := hid h3
      clear h3
      by_cases hlt : k < d.size
      · have z : (k : Int) < d.size := by omega
        have hcons := St.drop_at d k hlt
        by_cases c10 : d[k].toNat = 10
        · have e10 : ((d[k].toNat : Int) == 10) = true := by simp; omega
          have f10 : ((d[k].toNat : Int) != 10) = false := by simp; omega
          have HE := hid (show T = k by have := HK.out; rw [hcons, St.endN_10 c10] at this; omega)
          clear hcons c10
          go_wp2
          go_ret
          exact ⟨ret_int (by have := HE.out; omega), rfl⟩
        · have e10 : ((d[k].toNat : Int) == 10) = false := by simp; omega
          have f10 : ((d[k].toNat : Int) != 10) = true := by simp; omega
          by_cases c92 : d[k].toNat = 92
          · have e92 : ((d[k].toNat : Int) == 92) = true := by simp; omega
            by_cases hl1 : k + 1 < d.size
            · have hc2 := St.drop_at d (k + 1) hl1
              have HE := hid (show k + 2 + St.endN (d.data.toList.drop (k + 1 + 1)) = T by have := HK.out; rw [hcons, hc2, St.endN_2 c92] at this; omega)
              clear hcons hc2 c10 c92
              go_wp2
              go_round
              case rel => exact ⟨k + 2, congrArg (Value.int .i64) (by omega), .inl ⟨by omega, HE.out⟩⟩
              case measure => simp [intOf]; omega
            · have hc2 : d.data.toList.drop (k + 1) = [] := List.drop_of_length_le (by simp; omega)
              have HE := hid (show T = d.size by have := HK.out; rw [hcons, hc2, St.endN_1 c92] at this; omega)
              clear hcons hc2 c10 c92
              go_wp2
              go_round
              case rel => exact ⟨d.size + 1, congrArg (Value.int .i64) (by omega), .inr ⟨rfl, HE.out⟩⟩
              case measure => simp [intOf]; omega
          · have e92 : ((d[k].toNat : Int) == 92) = false := by simp; omega
            have HE := hid (show k + 1 + St.endN (d.data.toList.drop (k + 1)) = T by have := HK.out; rw [hcons, St.endN_e c10 c92] at this; omega)
            clear hcons c10 c92
            go_wp2
            go_round
            case rel => exact ⟨k + 1, congrArg (Value.int .i64) (by omega), .inl ⟨by omega, HE.out⟩⟩
            case measure => simp [intOf]; omega
      · obtain rfl : k = d.size := by omega
        have HE := hid (show T = d.size by have := HK.out; rw [List.drop_of_length_le (by simp)] at this; exact this.symm)
        clear hlt
        go_wp2
        go_ret
        exact ⟨ret_int (by have := HE.out; omega), rfl⟩
    · have z : ¬ ((d.size + 1 : Nat) : Int) < d.size := by omega
      go_wp2
      go_ret
      exact ⟨ret_int (by omega), rfl⟩
end Go.Proofs.YtpahkhmheikebaaGreatDoor
