/- The contracts of Format of package ratio and of its reference: the decimal notation, or none. Condition: the library's table of powers of ten lies in memory. -/
import Derived.Test.YtoalkjfdddjjaaaDoorRatKnown
import Derived.Test.YtoalkjfdddjjaaaDoorFmtPlain
import Derived.Test.YtoalkjfdddjjaaaDoorItoa
import Derived.Test.YtoalkjfdddjjaaaDoorRefDec
import Derived.Outline
namespace Go.Proofs.YtoalkjfdddjjaaaDoor
open Go.RowKit

def PowRel (k : Nat) (p i : Value) : Prop := ∃ j : Nat, j ≤ k ∧ p = .int .i64 (Rt.p10 j : Nat) ∧ i = .int .i64 j

theorem fmt_k0 (a b n P : Int) (l1 : List UInt8) (hn : Rt.units a b 0 = n) (hP : (Rt.p10 0 : Int) = P) (e1 : Lib.decDigits (n / P).toNat = l1) : Rt.fmtL a b 0 = if a < 0 ∧ 0 < n then 45 :: l1 else l1 := by
  unfold Rt.fmtL
  simp only [hn, hP, e1]
  simp
theorem fmt_kp (a b n P : Int) (k : Nat) (l1 l2 : List UInt8) (hk : 0 < k) (hn : Rt.units a b k = n) (hP : (Rt.p10 k : Int) = P) (e1 : Lib.decDigits (n / P).toNat = l1) (e2 : Lib.decDigits (n % P).toNat = l2) :
    Rt.fmtL a b k = if a < 0 ∧ 0 < n then 45 :: (l1 ++ 46 :: (List.replicate (k - l2.length) 48 ++ l2)) else l1 ++ 46 :: (List.replicate (k - l2.length) 48 ++ l2) := by
  have hk' : ¬ k = 0 := by omega
  unfold Rt.fmtL
  simp only [hn, hP, e1, e2, if_neg hk']
theorem ret_sb {a b : ByteArray} {t : Bool} (h : a = b) : Ending.returned (.tuple #[.string a, .bool t]) = .returned (.tuple #[.string b, .bool t]) := by rw [h]

set_option maxHeartbeats 4000000 in
theorem format_yes (a b : Int) (k : Nat) (w : World) (hv : Hid (Rt.vB a b = true)) (hk : k ≤ 6) (t : Hid (Tab w)) :
    Calls Tryd.prog 5 #[.agg #[.int .i64 a, .int .i64 b], .int .i64 k] w fun e w' => e = .returned (.tuple #[.string ⟨(Rt.fmtL a b k).toArray⟩, .bool true]) ∧ Und w w' := by
  obtain ⟨a1, a2, b1, b2⟩ := Rt.vB_bd hv.out
  have hm := Rt.mag_bd a
  have hk1 : ¬ (k : Int) < 0 := by omega
  have hk2 : ¬ 6 < (k : Int) := by omega
  go_enter Tryd.func5, Tryd.ntmps5
  go_wp2_with (go_at_call 9; refine (valid_t _ _ _ hv.out).mono ?_; rintro e w' ⟨rfl, X, rfl⟩)
  clear hk1 hk2
  go_loop [6, 22] (fun p i => PowRel k p i) (fun _ i => k - (intOf i).toNat)
  case atStart => exact ⟨0, by omega, rfl, rfl⟩
  case round =>
    obtain ⟨j, hj, rfl, rfl⟩ := hrel
    by_cases hlt : j < k
    · have hp := Rt.p10_six (k := j) (by omega)
      go_wp2
      go_round
      case rel => exact ⟨j + 1, by omega, by show _ = Value.int .i64 ((Rt.p10 j * 10 : Nat) : Int); go_num, by go_num⟩
      case measure => simp [intOf]; omega
    · obtain rfl : j = k := by omega
      have hp := Rt.p10_six hk
      have hp0 := Rt.p10_pos j
      obtain ⟨P, hP⟩ : ∃ P : Int, (Rt.p10 j : Int) = P := ⟨_, rfl⟩
      have hb := Rt.mul3_bd (Rt.mag a) (Rt.p10 j) (by omega) (by omega) (by omega) (by omega)
      have hub := Rt.units_bd a1 a2 b1 b2 hk
      obtain ⟨n, hn⟩ : ∃ n, Rt.units a b j = n := ⟨_, rfl⟩
      rw [hn] at hub
      have hU : (2 * Rt.mag a * P + b) / (2 * b) = n := by rw [← hP]; exact hn
      have hP1 : 1 ≤ P := by omega
      have hP2 : P ≤ 1000000 := by omega
      rw [hP] at hb
      have hq := Rt.ediv_bd n P 4611686018427387904 hP1 hub.1 hub.2
      have hr1 := Int.emod_nonneg n (by omega : P ≠ 0)
      have hr2 := Int.emod_lt_of_pos n (by omega : 0 < P)
      have hw1 : wrap64 (n.tdiv P) = n / P := by
        rw [Int.tdiv_eq_ediv_of_nonneg hub.1]; exact IntWalk.wrap64_in _ (by omega)
      obtain ⟨l1, e1⟩ : ∃ l1, Lib.decDigits (n / P).toNat = l1 := ⟨_, rfl⟩
      have z1 := Rt.digits_20 (u := (n / P).toNat) (by omega)
      rw [e1] at z1
      clear hlt hp hp0
      by_cases hk0 : 0 < j
      · obtain ⟨l2, e2⟩ : ∃ l2, Lib.decDigits (n % P).toNat = l2 := ⟨_, rfl⟩
        have z2 := Rt.digits_le (u := (n % P).toNat) (k := j) (by omega) (by omega)
        rw [e2] at z2
        have F := hid (fmt_kp a b n P j l1 l2 hk0 hn hP e1 e2)
        clear hn
        rcases (show (a < 0 ∧ 0 < n) ∨ (a < 0 ∧ ¬ 0 < n) ∨ ¬ a < 0 by omega) with ⟨s1, s2⟩ | ⟨s1, s2⟩ | s1
        all_goals
          go_wp2_with fail
          first | refine wp_region_under2 (by kernel_rfl) (by kernel_rfl) ?_ | refine wp_region_under (by kernel_rfl) (by kernel_rfl) ?_
          repeat (go_big_quiet_step (first | (go_at_call 10; exact Calls.under_of (magnitude_any _ _ (by omega) (by omega)))))
          refine wpQuiet_nil ?_
          rintro _ ⟨X, rfl⟩
          go_wp2_with (first | (go_at_call 11; refine (itoa_any _ _ (by omega) (by omega) (Tab.und (by repeat (first | exact Und.refl _ | assumption | refine Und.under ?_ _ | refine Und.alloc ?_ _ | refine Und.drew ?_ | refine Und.drewN ?_ _)) t.out)).mono ?_; rintro e w' ⟨rfl, X, rfl⟩) | (go_at_call 12; refine (repeat_any _ _ _ (by omega) (by omega)).mono ?_; rintro e w' ⟨rfl, X, rfl⟩))
          go_ret2
          refine ⟨ret_sb ?_, (by repeat (first | exact Und.refl _ | assumption | refine Und.under ?_ _ | refine Und.alloc ?_ _ | refine Und.drew ?_ | refine Und.drewN ?_ _))⟩
          rw [F.out]
          first | rw [if_pos (by omega : a < 0 ∧ 0 < n)] | rw [if_neg (by omega : ¬ (a < 0 ∧ 0 < n))]
          try simp [ba_append]
      · obtain rfl : j = 0 := by omega
        have F := hid (fmt_k0 a b n P l1 hn hP e1)
        clear hn
        rcases (show (a < 0 ∧ 0 < n) ∨ (a < 0 ∧ ¬ 0 < n) ∨ ¬ a < 0 by omega) with ⟨s1, s2⟩ | ⟨s1, s2⟩ | s1
        all_goals
          go_wp2_with fail
          first | refine wp_region_under2 (by kernel_rfl) (by kernel_rfl) ?_ | refine wp_region_under (by kernel_rfl) (by kernel_rfl) ?_
          repeat (go_big_quiet_step (first | (go_at_call 10; exact Calls.under_of (magnitude_any _ _ (by omega) (by omega)))))
          refine wpQuiet_nil ?_
          rintro _ ⟨X, rfl⟩
          go_wp2_with (go_at_call 11; refine (itoa_any _ _ (by omega) (by omega) (Tab.und (by repeat (first | exact Und.refl _ | assumption | refine Und.under ?_ _ | refine Und.alloc ?_ _ | refine Und.drew ?_ | refine Und.drewN ?_ _)) t.out)).mono ?_; rintro e w' ⟨rfl, X, rfl⟩)
          go_ret2
          refine ⟨ret_sb ?_, (by repeat (first | exact Und.refl _ | assumption | refine Und.under ?_ _ | refine Und.alloc ?_ _ | refine Und.drew ?_ | refine Und.drewN ?_ _))⟩
          rw [F.out]
          first | rw [if_pos (by omega : a < 0 ∧ 0 < n)] | rw [if_neg (by omega : ¬ (a < 0 ∧ 0 < n))]
          try simp [ba_append]

set_option maxHeartbeats 800000 in
theorem format_no (a b k : Int) (w : World) (h : Hid (Rt.vB a b = false ∨ (Rt.vB a b = true ∧ (k < 0 ∨ 6 < k)))) :
    Calls Tryd.prog 5 #[.agg #[.int .i64 a, .int .i64 b], .int .i64 k] w fun e w' => e = .returned (.tuple #[.string ⟨#[]⟩, .bool false]) ∧ Und w w' := by
  rcases h.out with h1 | ⟨h1, h2⟩
  · have H1 := hid h1
    clear h1 h
    go_enter Tryd.func5, Tryd.ntmps5
    go_wp2_with (go_at_call 9; refine (valid_f _ _ _ H1.out).mono ?_; rintro e w' ⟨rfl, X, rfl⟩)
    go_ret2
    exact ⟨rfl, (by repeat (first | exact Und.refl _ | assumption | refine Und.under ?_ _ | refine Und.alloc ?_ _ | refine Und.drew ?_ | refine Und.drewN ?_ _))⟩
  · have H1 := hid h1
    clear h1 h
    by_cases t : k < 0
    · clear h2
      go_enter Tryd.func5, Tryd.ntmps5
      go_wp2_with (go_at_call 9; refine (valid_t _ _ _ H1.out).mono ?_; rintro e w' ⟨rfl, X, rfl⟩)
      go_ret2
      exact ⟨rfl, (by repeat (first | exact Und.refl _ | assumption | refine Und.under ?_ _ | refine Und.alloc ?_ _ | refine Und.drew ?_ | refine Und.drewN ?_ _))⟩
    · have t2 : 6 < k := by omega
      clear h2
      go_enter Tryd.func5, Tryd.ntmps5
      go_wp2_with (go_at_call 9; refine (valid_t _ _ _ H1.out).mono ?_; rintro e w' ⟨rfl, X, rfl⟩)
      go_ret2
      exact ⟨rfl, (by repeat (first | exact Und.refl _ | assumption | refine Und.under ?_ _ | refine Und.alloc ?_ _ | refine Und.drew ?_ | refine Und.drewN ?_ _))⟩

def strLen : Value → Nat
  | .string s => s.size
  | _ => 0
def PadRel (k : Nat) (l : List UInt8) (t : Value) : Prop := ∃ j : Nat, (j = 0 ∨ l.length + j ≤ k) ∧ t = .string ⟨(List.replicate j 48 ++ l).toArray⟩

set_option maxHeartbeats 4000000 in
theorem rformat_m (a b m : Int) (k : Nat) (w : World) (hv : Hid (Rt.vB a b = true)) (hk : k ≤ 6) (hm : Hid (Rt.mag a = m)) (ha : a < 0 ∧ -a = m ∨ 0 ≤ a ∧ a = m) :
    Calls Tryd.prog 6 #[.agg #[.int .i64 a, .int .i64 b], .int .i64 k] w fun e w' => e = .returned (.tuple #[.string ⟨(Rt.fmtL a b k).toArray⟩, .bool true]) ∧ Und w w' := by
  obtain ⟨a1, a2, b1, b2⟩ := Rt.vB_bd hv.out
  have hk1 : ¬ (k : Int) < 0 := by omega
  have hk2 : ¬ 6 < (k : Int) := by omega
  have Ha := hid ha
  have hm0 : 0 ≤ m := by omega
  have hm1 : m ≤ 1073741824 := by omega
  clear ha
  go_enter Tryd.func6, Tryd.ntmps6
  go_wp2_with (go_at_call 13; refine (rvalid_t _ _ _ hv.out).mono ?_; rintro e w' ⟨rfl, X, rfl⟩)
  clear hk1 hk2
  go_loop [6, 7] (fun p i => PowRel k p i) (fun _ i => k - (intOf i).toNat)
  case atStart => exact ⟨0, by omega, rfl, rfl⟩
  case round =>
    obtain ⟨j, hj, rfl, rfl⟩ := hrel
    by_cases hlt : j < k
    · have hp := Rt.p10_six (k := j) (by omega)
      go_wp2
      go_round
      case rel => exact ⟨j + 1, by omega, by show _ = Value.int .i64 ((Rt.p10 j * 10 : Nat) : Int); go_num, by go_num⟩
      case measure => simp [intOf]; omega
    · obtain rfl : j = k := by omega
      have hp := Rt.p10_six hk
      have hp0 := Rt.p10_pos j
      obtain ⟨P, hP⟩ : ∃ P : Int, (Rt.p10 j : Int) = P := ⟨_, rfl⟩
      have hb := Rt.mul2_bd m P (by omega) (by omega) (by omega) (by omega)
      have hub := Rt.units_bd a1 a2 b1 b2 hk
      obtain ⟨n, hn⟩ : ∃ n, Rt.units a b j = n := ⟨_, rfl⟩
      rw [hn] at hub
      have hU : (2 * (m * P) + b) / (2 * b) = n := by rw [← hn, Rt.units, hm.out, hP, Int.mul_assoc]
      have hP1 : 1 ≤ P := by omega
      have hP2 : P ≤ 1000000 := by omega
      have hq := Rt.ediv_bd n P 4611686018427387904 hP1 hub.1 hub.2
      have hr1 := Int.emod_nonneg n (by omega : P ≠ 0)
      have hr2 := Int.emod_lt_of_pos n (by omega : 0 < P)
      have hw1 : wrap64 (n.tdiv P) = n / P := by
        rw [Int.tdiv_eq_ediv_of_nonneg hub.1]; exact IntWalk.wrap64_in _ (by omega)
      obtain ⟨l1, e1⟩ : ∃ l1, Lib.decDigits (n / P).toNat = l1 := ⟨_, rfl⟩
      obtain ⟨q, eq⟩ : ∃ q : Nat, (n / P).toNat = q := ⟨_, rfl⟩
      have eq2 : n / P = (q : Int) := by omega
      have z1 := Rt.digits_20 (u := (n / P).toNat) (by omega)
      rw [e1] at z1
      clear hlt hp hp0
      by_cases hk0 : 0 < j
      · obtain ⟨l2, e2⟩ : ∃ l2, Lib.decDigits (n % P).toNat = l2 := ⟨_, rfl⟩
        obtain ⟨r, er⟩ : ∃ r : Nat, (n % P).toNat = r := ⟨_, rfl⟩
        have er2 : n % P = (r : Int) := by omega
        have z2 := Rt.digits_le (u := (n % P).toNat) (k := j) (by omega) (by omega)
        rw [e2] at z2
        have F := hid (fmt_kp a b n P j l1 l2 hk0 hn hP e1 e2)
        rw [eq] at e1
        rw [er] at e2
        have hq' : q ≤ 4611686018427387904 := by omega
        have hr' : r ≤ 1000000 := by omega
        clear hn eq er hr1 hr2
        rcases Ha.out with ⟨s1, hma⟩ | ⟨s1, rfl⟩
        · have hmx : max a m = m := by omega
          go_wp2_with (go_at_call 14; (with_reducible refine (decimal_any _ _ (by omega)).mono ?_); rintro e w' ⟨rfl, X, rfl⟩)
          go_loop [11] (fun t => PadRel j l2 t) (fun t => j - strLen t)
          case atStart => exact ⟨0, Or.inl rfl, by simp⟩
          case round =>
            obtain ⟨i, hi, rfl⟩ := hrel
            by_cases hh : l2.length + i < j
            · have hz : ((i : Int) + (l2.length : Int) < (j : Int)) := by omega
              have hz2 : i + l2.length < j := by omega
              go_wp2
              refine ⟨⟨i + 1, Or.inr (by omega), by rw [ba_append]; simp [List.replicate_succ]⟩, ?_⟩
              rw [ba_append]
              show j - (#[48] ++ (List.replicate i 48 ++ l2).toArray).size < j - (List.replicate i 48 ++ l2).toArray.size
              simp
              omega
            · have hz : ¬ ((i : Int) + (l2.length : Int) < (j : Int)) := by omega
              have hz2 : ¬ (i + l2.length < j) := by omega
              obtain rfl : i = j - l2.length := by omega
              clear hh hi
              by_cases s2 : 0 < n
              all_goals
                go_wp2
                go_ret2
                refine ⟨ret_sb ?_, (by repeat (first | exact Und.refl _ | assumption | refine Und.under ?_ _ | refine Und.alloc ?_ _ | refine Und.drew ?_ | refine Und.drewN ?_ _))⟩
                rw [F.out]
                first | rw [if_pos (by omega : a < 0 ∧ 0 < n)] | rw [if_neg (by omega : ¬ (a < 0 ∧ 0 < n))]
                try simp [ba_append]
        · have hmx : max a (-a) = a := by omega
          go_wp2_with (go_at_call 14; (with_reducible refine (decimal_any _ _ (by omega)).mono ?_); rintro e w' ⟨rfl, X, rfl⟩)
          go_loop [11] (fun t => PadRel j l2 t) (fun t => j - strLen t)
          case atStart => exact ⟨0, Or.inl rfl, by simp⟩
          case round =>
            obtain ⟨i, hi, rfl⟩ := hrel
            by_cases hh : l2.length + i < j
            · have hz : ((i : Int) + (l2.length : Int) < (j : Int)) := by omega
              have hz2 : i + l2.length < j := by omega
              go_wp2
              refine ⟨⟨i + 1, Or.inr (by omega), by rw [ba_append]; simp [List.replicate_succ]⟩, ?_⟩
              rw [ba_append]
              show j - (#[48] ++ (List.replicate i 48 ++ l2).toArray).size < j - (List.replicate i 48 ++ l2).toArray.size
              simp
              omega
            · have hz : ¬ ((i : Int) + (l2.length : Int) < (j : Int)) := by omega
              have hz2 : ¬ (i + l2.length < j) := by omega
              obtain rfl : i = j - l2.length := by omega
              clear hh hi
              go_wp2
              go_ret2
              refine ⟨ret_sb ?_, (by repeat (first | exact Und.refl _ | assumption | refine Und.under ?_ _ | refine Und.alloc ?_ _ | refine Und.drew ?_ | refine Und.drewN ?_ _))⟩
              rw [F.out]
              first | rw [if_pos (by omega : a < 0 ∧ 0 < n)] | rw [if_neg (by omega : ¬ (a < 0 ∧ 0 < n))]
              try simp [ba_append]
      · obtain rfl : j = 0 := by omega
        have F := hid (fmt_k0 a b n P l1 hn hP e1)
        rw [eq] at e1
        have hq' : q ≤ 4611686018427387904 := by omega
        clear hn eq hr1 hr2
        rcases Ha.out with ⟨s1, hma⟩ | ⟨s1, rfl⟩
        · have hmx : max a m = m := by omega
          by_cases s2 : 0 < n
          all_goals
            go_wp2_with (go_at_call 14; (with_reducible refine (decimal_any _ _ (by omega)).mono ?_); rintro e w' ⟨rfl, X, rfl⟩)
            go_ret2
            refine ⟨ret_sb ?_, (by repeat (first | exact Und.refl _ | assumption | refine Und.under ?_ _ | refine Und.alloc ?_ _ | refine Und.drew ?_ | refine Und.drewN ?_ _))⟩
            rw [F.out]
            first | rw [if_pos (by omega : a < 0 ∧ 0 < n)] | rw [if_neg (by omega : ¬ (a < 0 ∧ 0 < n))]
            try simp [ba_append]
        · have hmx : max a (-a) = a := by omega
          go_wp2_with (go_at_call 14; (with_reducible refine (decimal_any _ _ (by omega)).mono ?_); rintro e w' ⟨rfl, X, rfl⟩)
          go_ret2
          refine ⟨ret_sb ?_, (by repeat (first | exact Und.refl _ | assumption | refine Und.under ?_ _ | refine Und.alloc ?_ _ | refine Und.drew ?_ | refine Und.drewN ?_ _))⟩
          rw [F.out]
          first | rw [if_pos (by omega : a < 0 ∧ 0 < n)] | rw [if_neg (by omega : ¬ (a < 0 ∧ 0 < n))]
          try simp [ba_append]

theorem rformat_yes (a b : Int) (k : Nat) (w : World) (hv : Hid (Rt.vB a b = true)) (hk : k ≤ 6) :
    Calls Tryd.prog 6 #[.agg #[.int .i64 a, .int .i64 b], .int .i64 k] w fun e w' => e = .returned (.tuple #[.string ⟨(Rt.fmtL a b k).toArray⟩, .bool true]) ∧ Und w w' := by
  refine rformat_m a b _ k w hv hk (hid rfl) ?_
  unfold Rt.mag
  split <;> omega

set_option maxHeartbeats 800000 in
theorem rformat_no (a b k : Int) (w : World) (h : Hid (Rt.vB a b = false ∨ (Rt.vB a b = true ∧ (k < 0 ∨ 6 < k)))) :
    Calls Tryd.prog 6 #[.agg #[.int .i64 a, .int .i64 b], .int .i64 k] w fun e w' => e = .returned (.tuple #[.string ⟨#[]⟩, .bool false]) ∧ Und w w' := by
  rcases h.out with h1 | ⟨h1, h2⟩
  · have H1 := hid h1
    clear h1 h
    go_enter Tryd.func6, Tryd.ntmps6
    go_wp2_with (go_at_call 13; refine (rvalid_f _ _ _ H1.out).mono ?_; rintro e w' ⟨rfl, X, rfl⟩)
    go_ret2
    exact ⟨rfl, (by repeat (first | exact Und.refl _ | assumption | refine Und.under ?_ _ | refine Und.alloc ?_ _ | refine Und.drew ?_ | refine Und.drewN ?_ _))⟩
  · have H1 := hid h1
    clear h1 h
    by_cases t : k < 0
    · clear h2
      go_enter Tryd.func6, Tryd.ntmps6
      go_wp2_with (go_at_call 13; refine (rvalid_t _ _ _ H1.out).mono ?_; rintro e w' ⟨rfl, X, rfl⟩)
      go_ret2
      exact ⟨rfl, (by repeat (first | exact Und.refl _ | assumption | refine Und.under ?_ _ | refine Und.alloc ?_ _ | refine Und.drew ?_ | refine Und.drewN ?_ _))⟩
    · have t2 : 6 < k := by omega
      clear h2
      go_enter Tryd.func6, Tryd.ntmps6
      go_wp2_with (go_at_call 13; refine (rvalid_t _ _ _ H1.out).mono ?_; rintro e w' ⟨rfl, X, rfl⟩)
      go_ret2
      exact ⟨rfl, (by repeat (first | exact Und.refl _ | assumption | refine Und.under ?_ _ | refine Und.alloc ?_ _ | refine Und.drew ?_ | refine Und.drewN ?_ _))⟩
end Go.Proofs.YtoalkjfdddjjaaaDoor
