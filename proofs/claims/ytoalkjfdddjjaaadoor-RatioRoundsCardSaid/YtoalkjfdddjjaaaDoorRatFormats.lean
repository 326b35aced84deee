/- The law RatioFormats: for any ratio and any number of digits Format returns what the reference returns. Condition: the library's table of powers of ten lies in memory. -/
import Derived.Test.YtoalkjfdddjjaaaDoorFormat
import Derived.Test.YtoalkjfdddjjaaaDoorRatSome
import Derived.Outline
namespace Go.Proofs.YtoalkjfdddjjaaaDoor
open Go.RowKit

def fmtB (a b d : Int) : Bool := Rt.vB a b && decide (0 ≤ d ∧ d ≤ 6)
def fmtS (a b d : Int) : ByteArray := if fmtB a b d = true then ⟨(Rt.fmtL a b d.toNat).toArray⟩ else ⟨#[]⟩

theorem format_any (a b d : Int) (w : World) (t : Tab w) : Calls Tryd.prog 5 #[.agg #[.int .i64 a, .int .i64 b], .int .i64 d] w fun e w' => e = .returned (.tuple #[.string (fmtS a b d), .bool (fmtB a b d)]) ∧ Und w w' := by
  unfold fmtS fmtB
  cases hv : Rt.vB a b
  · exact format_no a b d w (hid (Or.inl hv))
  · by_cases hd : 0 ≤ d ∧ d ≤ 6
    · obtain ⟨k, rfl⟩ := Int.eq_ofNat_of_zero_le hd.1
      have := format_yes a b k w (hid hv) (by omega) (hid t)
      simpa [hd] using this
    · have := format_no a b d w (hid (Or.inr ⟨hv, by omega⟩))
      simpa [hd] using this
theorem rformat_any (a b d : Int) (w : World) : Calls Tryd.prog 6 #[.agg #[.int .i64 a, .int .i64 b], .int .i64 d] w fun e w' => e = .returned (.tuple #[.string (fmtS a b d), .bool (fmtB a b d)]) ∧ Und w w' := by
  unfold fmtS fmtB
  cases hv : Rt.vB a b
  · exact rformat_no a b d w (hid (Or.inl hv))
  · by_cases hd : 0 ≤ d ∧ d ≤ 6
    · obtain ⟨k, rfl⟩ := Int.eq_ofNat_of_zero_le hd.1
      have := rformat_yes a b k w (hid hv) (by omega)
      simpa [hd] using this
    · have := rformat_no a b d w (hid (Or.inr ⟨hv, by omega⟩))
      simpa [hd] using this
theorem some_q {a b s : Int} {q : Rat} (h : 1 ≤ s ∧ s ≤ 1048576 ∧ Rt.someR a b s = q) (w : World) : Calls Tryd.prog 7 #[.int .i64 a, .int .i64 b, .int .i64 s] w fun e w' => e = .returned (.agg #[.int .i64 q.num, .int .i64 q.den]) ∧ Und w w' := by
  obtain ⟨h1, h2, rfl⟩ := h
  exact some_any a b s w h1 h2

set_option maxHeartbeats 1600000 in
theorem formats_core (n0 d0 a b d u : Int) (k : Nat) (q : Rat) (s0 : ByteArray) (t0 : Bool) (w : World) (t : Hid (Tab w)) (hq : Hid (Rt.someR a b 1048576 = q)) (hv : Hid (Rt.vB q.num q.den = true))
    (hs : Hid (fmtS n0 d0 d = s0 ∧ fmtB n0 d0 d = t0)) (hu : IntKind.u64.wrap d = u) (u1 : 0 ≤ u) (u2 : u ≤ 18446744073709551615) (hk : u % 7 = (k : Int)) (k6 : k ≤ 6) :
    Calls Tryd.prog 3 #[.agg #[.int .i64 n0, .int .i64 d0], .int .i64 a, .int .i64 b, .int .i64 d] w fun e w' => e = .returned (.bool true) ∧ Und w w' := by
  have fa : ∀ W, Tab W → Calls Tryd.prog 5 #[.agg #[.int .i64 n0, .int .i64 d0], .int .i64 d] W fun e w' => e = .returned (.tuple #[.string s0, .bool t0]) ∧ Und W w' := fun W hW => by
    rw [← hs.out.1, ← hs.out.2]; exact format_any n0 d0 d W hW
  have ra : ∀ W, Calls Tryd.prog 6 #[.agg #[.int .i64 n0, .int .i64 d0], .int .i64 d] W fun e w' => e = .returned (.tuple #[.string s0, .bool t0]) ∧ Und W w' := fun W => by
    rw [← hs.out.1, ← hs.out.2]; exact rformat_any n0 d0 d W
  have FA := hid fa
  have RA := hid ra
  clear fa ra
  go_enter Tryd.func3, Tryd.ntmps3
  go_wp2_with fail
  refine (FA.out _ (Tab.und (by repeat (first | exact Und.refl _ | assumption | refine Und.under ?_ _ | refine Und.alloc ?_ _ | refine Und.drew ?_ | refine Und.drewN ?_ _)) t.out)).mono ?_; rintro e w' ⟨rfl, X1, rfl⟩
  go_wp2_with fail
  refine (RA.out _).mono ?_; rintro e w' ⟨rfl, X2, rfl⟩
  go_wp2_with fail
  refine (some_q ⟨by omega, by omega, hq.out⟩ _).mono ?_; rintro e w' ⟨rfl, X3, rfl⟩
  go_wp2_with fail
  refine (format_yes _ _ k _ hv k6 (hid (Tab.und (by repeat (first | exact Und.refl _ | assumption | refine Und.under ?_ _ | refine Und.alloc ?_ _ | refine Und.drew ?_ | refine Und.drewN ?_ _)) t.out))).mono ?_; rintro e w' ⟨rfl, X4, rfl⟩
  go_wp2_with fail
  refine (rformat_yes _ _ k _ hv k6).mono ?_; rintro e w' ⟨rfl, X5, rfl⟩
  go_wp2_with (go_at_call 8; refine (known_any _).mono ?_; rintro e w' ⟨rfl, X14, rfl⟩)
  go_ret
  exact ⟨rfl, (by repeat (first | exact Und.refl _ | assumption | refine Und.under ?_ _ | refine Und.alloc ?_ _ | refine Und.drew ?_ | refine Und.drewN ?_ _))⟩

theorem formats_any (n0 d0 a b d : Int) (w : World) (t : Tab w) : Calls Tryd.prog 3 #[.agg #[.int .i64 n0, .int .i64 d0], .int .i64 a, .int .i64 b, .int .i64 d] w fun e w' => e = .returned (.bool true) ∧ Und w w' := by
  have sx := Rt.someR_sm a b 1048576 (by omega)
  have ox := sx.ok (by omega) (by omega)
  have hu : IntKind.u64.wrap d = d % 18446744073709551616 := by rw [IntKind.wrap_u64]
  have hk : d % 18446744073709551616 % 7 = ((d % 18446744073709551616 % 7).toNat : Int) := by omega
  exact formats_core n0 d0 a b d _ _ _ _ _ w (hid t) (hid rfl) (hid (Rt.vB_of _ ox)) (hid ⟨rfl, rfl⟩) hu (by omega) (by omega) hk (by omega)
end Go.Proofs.YtoalkjfdddjjaaaDoor
