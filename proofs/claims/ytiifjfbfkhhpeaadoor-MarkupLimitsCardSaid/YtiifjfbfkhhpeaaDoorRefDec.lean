/- The contract of the reference's decimal: the decimal digits of a number that is not negative. Condition: at most 2 to the 62. -/
import Derived.Test.YtiifjfbfkhhpeaaDoorRows
import Derived.Test.YtiifjfbfkhhpeaaDoorUnder
import Derived.Lib.ItoaNum
import Derived.Laws.BytesArg
import Derived.Outline
set_option linter.unusedVariables false
set_option linter.unusedSimpArgs false
namespace Go.Proofs.YtiifjfbfkhhpeaaDoor
open Go.RowKit

@[go_sem] theorem conv_one (W : World) (c : Int) : (convert 48 9 (.slice (some ⟨W.heap.size, 0, none⟩) 1 1)).run Tryd.prog (W.alloc (.cells #[.int .u8 c] 5)) = .ok (.string ⟨#[UInt8.ofNat c.toNat]⟩) (W.alloc (.cells #[.int .u8 c] 5)) := by
  rw [run_convert_bytes_arg _ 48 5 Tryd.underlying48 Tryd.underlying5 W.heap.size 0 1 1 [c] rfl (fun i hi => by
    obtain rfl : i = 0 := by omega
    rw [World.cell?_alloc_at _ _ _ _ rfl]; simp) _ Tryd.underlying9]
  rfl

def DecRel (n : Nat) (w : World) (a s : Value) (wr : World) : Prop :=
  ∃ (m : Nat) (l : List UInt8), m ≤ n ∧ l.length ≤ n - m ∧ a = .int .i64 m ∧ s = .string ⟨l.toArray⟩ ∧ Hid (Lib.decDigits n = Lib.decDigits m ++ l) ∧ Und w wr

theorem dec_byte (k : Nat) : UInt8.ofNat (48 + k) = 48 + UInt8.ofNat k := by
  apply UInt8.toNat.inj; simp [UInt8.toNat_add]
theorem dec_lt {m : Nat} (h : m < 10) : Lib.decDigits m = [48 + UInt8.ofNat (m % 10)] := by
  rw [Lib.decDigits_one h, dec_byte, Nat.mod_eq_of_lt h]
theorem dec_ge {m : Nat} (h : ¬ m < 10) : Lib.decDigits m = Lib.decDigits (m / 10) ++ [48 + UInt8.ofNat (m % 10)] := by
  rw [Lib.decDigits, dif_neg h, dec_byte]
theorem ba_append (a b : Array UInt8) : (⟨a⟩ : ByteArray) ++ (⟨b⟩ : ByteArray) = ⟨a ++ b⟩ := by
  apply ByteArray.ext; simp [ByteArray.data_append]
theorem ret_str {a b : ByteArray} (h : a = b) : Ending.returned (.string a) = .returned (.string b) := by rw [h]

set_option maxHeartbeats 800000 in
theorem decimal_any (n : Nat) (w : World) (hn : n ≤ 4611686018427387904) :
    Calls Tryd.prog 48 #[.int .i64 n] w fun e w' => e = .returned (.string ⟨(Lib.decDigits n).toArray⟩) ∧ Und w w' := by
  go_enter Tryd.func48, Tryd.ntmps48
  go_wp2
  go_loopw [0, 3] (fun a s wr => DecRel n w a s wr) (fun a _ _ => (intOf a).toNat)
  case atStart => exact ⟨n, [], by omega, by simp, rfl, rfl, hid (by simp), Und.refl _⟩
  case round =>
    obtain ⟨m, l, hm, hl, rfl, rfl, H, X, rfl⟩ := hrel
    by_cases h10 : m < 10
    · have e1 : ((m : Int) / 10 == 0) = true := by simp; omega
      go_wp2
      go_ret
      refine ⟨ret_str ?_, (by repeat (first | exact Und.refl _ | assumption | refine Und.under ?_ _ | refine Und.alloc ?_ _ | refine Und.drew ?_ | refine Und.drewN ?_ _))⟩
      rw [H.out, dec_lt h10, ba_append]
      simp
    · have e1 : ((m : Int) / 10 == 0) = false := by simp; omega
      go_wp2
      rw [ba_append]
      refine ⟨⟨m / 10, (48 + UInt8.ofNat (m % 10)) :: l, by omega, by simp; omega, by simp, by simp, hid ?_, (by repeat (first | exact Und.refl _ | assumption | refine Und.under ?_ _ | refine Und.alloc ?_ _ | refine Und.drew ?_ | refine Und.drewN ?_ _))⟩, ?_⟩
      · rw [H.out, dec_ge h10]; simp
      · simp [intOf]; omega
end Go.Proofs.YtiifjfbfkhhpeaaDoor
