/- The law RatioRounds: the digits of a formatted ratio differ from it by at most half a unit of the last digit. Condition: the library's table of powers of ten lies in memory. -/
import Derived.Test.YtoalkjfdddjjaaaDoorRatFormats
import Derived.Test.YtoalkjfdddjjaaaDoorRndPlain
import Derived.Outline
namespace Go.Proofs.YtoalkjfdddjjaaaDoor
open Go.RowKit

def RndRel (s : ByteArray) (n b p i : Value) : Prop :=
  ∃ k : Nat, k ≤ s.size ∧ i = .int .i64 k ∧ n = .int .i64 (Rt.pst (s.data.toList.take k)).1 ∧ b = .int .i64 (Rt.pst (s.data.toList.take k)).2.1 ∧ p = .int .i64 (Rt.pst (s.data.toList.take k)).2.2

theorem format_s {a b : Int} {k : Nat} {s : ByteArray} (h : Rt.vB a b = true ∧ k ≤ 6 ∧ (⟨(Rt.fmtL a b k).toArray⟩ : ByteArray) = s) (w : World) (t : Tab w) :
    Calls Tryd.prog 5 #[.agg #[.int .i64 a, .int .i64 b], .int .i64 k] w fun e w' => e = .returned (.tuple #[.string s, .bool true]) ∧ Und w w' := by
  obtain ⟨h1, h2, rfl⟩ := h
  exact format_yes a b k w (hid h1) h2 (hid t)

set_option maxRecDepth 100000 in
set_option maxHeartbeats 4000000 in
theorem rounds_core (a b d u : Int) (k : Nat) (q : Rat) (s : ByteArray) (N D : Int) (w : World) (t : Hid (Tab w)) (hq : Hid (Rt.someR a b 65536 = q))
    (hN : q.num = N) (hD : (q.den : Int) = D) (hs : Hid (Rt.vB N D = true ∧ k ≤ 6 ∧ (⟨(Rt.fmtL N D k).toArray⟩ : ByteArray) = s)) (s1 : 1 ≤ s.size) (s18 : s.size ≤ 18)
    (hu : IntKind.u64.wrap d = u) (u1 : 0 ≤ u) (u2 : u ≤ 18446744073709551615) (hk : u % 7 = (k : Int)) (k6 : k ≤ 6)
    (U P : Int) (hp : Hid (Rt.pst s.data.toList = (U, if k = 0 then -1 else (k : Int), P))) (U0 : 0 ≤ U) (U1 : U ≤ 1000000000000) (UD1 : 0 ≤ U * D) (UD2 : U * D ≤ 100000000000000000) (NP1 : -100000000000000000 ≤ N * P) (NP2 : N * P ≤ 100000000000000000)
    (sg : Hid ((N < 0 ∧ 0 < U ∧ s[0].toNat = 45 ∧ 2 * (U * D + N * P) ≤ D ∧ -D ≤ 2 * (U * D + N * P)) ∨ (Rt.isD s[0] ∧ 2 * (U * D - N * P) ≤ D ∧ -D ≤ 2 * (U * D - N * P))))
    (hc : Hid (∀ i (h : i < s.size), s[i].toNat = 46 ∨ Rt.isD s[i] ∨ (i = 0 ∧ s[i].toNat = 45))) :
    Calls Tryd.prog 4 #[.int .i64 a, .int .i64 b, .int .i64 d] w fun e w' => e = .returned (.bool true) ∧ Und w w' := by
  go_enter Tryd.func4, Tryd.ntmps4
  go_wp2_with fail
  refine (some_q ⟨by omega, by omega, hq.out⟩ _).mono ?_; rintro e w' ⟨rfl, X3, rfl⟩
  rw [hN, hD]
  clear hN hD
  go_wp2_with fail
  refine (format_s hs.out _ (Tab.und (by repeat (first | exact Und.refl _ | assumption | refine Und.under ?_ _ | refine Und.alloc ?_ _ | refine Und.drew ?_ | refine Und.drewN ?_ _)) t.out)).mono ?_; rintro e w' ⟨rfl, X4, rfl⟩
  go_wp2_with fail
  go_loop [10, 11, 12, 13] (fun n b p i => RndRel s n b p i) (fun _ _ _ i => s.size - (intOf i).toNat)
  case atStart => exact ⟨0, by omega, rfl, rfl, rfl, rfl⟩
  case round =>
    obtain ⟨j, hj, rfl, rfl, rfl, rfl⟩ := hrel
    by_cases hlt : j < s.size
    · obtain ⟨x1, x2, x3, x4, x5, x6⟩ := Rt.pst_bd s.data.toList j (by simpa using hj)
      have hp := Rt.p10_le (show j ≤ 17 by omega)
      have hp17 : Rt.p10 17 = 100000000000000000 := rfl
      have st := hid (Rt.pst_step s j hlt)
      have hcj := hc.out j hlt
      obtain ⟨n0, e1⟩ : ∃ n0, (Rt.pst (s.data.toList.take j)).1 = n0 := ⟨_, rfl⟩
      obtain ⟨b0, e2⟩ : ∃ b0, (Rt.pst (s.data.toList.take j)).2.1 = b0 := ⟨_, rfl⟩
      obtain ⟨p0, e3⟩ : ∃ p0, (Rt.pst (s.data.toList.take j)).2.2 = p0 := ⟨_, rfl⟩
      rw [e1] at x1 x2 ⊢
      rw [e2] at x3 x4 ⊢
      rw [e3] at x5 x6 ⊢
      have y2 : n0 < 100000000000000000 := by omega
      have y6 : p0 ≤ 100000000000000000 := by omega
      have hb := s[j].toNat_lt
      have E := hid (And.intro e1 (And.intro e2 e3))
      have HC := hid hcj
      clear e1 e2 e3 hcj x2 x6 hp hp17
      unfold Rt.isD at HC
      by_cases h46 : s[j].toNat = 46
      · have z1 : ((s[j].toNat : Int) == 46) = true := by simp; omega
        go_wp2_with fail
        refine ⟨⟨j + 1, by omega, by go_num, ?_, ?_, ?_⟩, by first | (simp [intOf]; done) | (simp [intOf]; omega)⟩
        all_goals rw [st.out]; unfold Rt.stp; rw [if_pos h46]; try simp [E.out]
      · by_cases hd : 48 ≤ s[j].toNat ∧ s[j].toNat ≤ 57
        · have z1 : ((s[j].toNat : Int) == 46) = false := by simp; omega
          have z2 : 48 ≤ (s[j].toNat : Int) := by omega
          have z3 : (s[j].toNat : Int) ≤ 57 := by omega
          by_cases hb0 : 0 ≤ b0
          · go_wp2_with fail
            refine ⟨⟨j + 1, by omega, by go_num, ?_, ?_, ?_⟩, by first | (simp [intOf]; done) | (simp [intOf]; omega)⟩
            all_goals rw [st.out]; unfold Rt.stp; rw [if_neg h46, if_pos hd, if_pos (by rw [E.out.2.1]; exact hb0)]; simp [E.out, Rt.dv]
          · go_wp2_with fail
            refine ⟨⟨j + 1, by omega, by go_num, ?_, ?_, ?_⟩, by first | (simp [intOf]; done) | (simp [intOf]; omega)⟩
            all_goals rw [st.out]; unfold Rt.stp; rw [if_neg h46, if_pos hd, if_neg (by rw [E.out.2.1]; exact hb0)]; simp [E.out, Rt.dv]
        · have hj0 : j = 0 ∧ s[j].toNat = 45 := by
            rcases HC.out with h | h | h
            · exact absurd h h46
            · exact absurd h hd
            · exact h
          obtain ⟨rfl, h45⟩ := hj0
          have z1 : ((s[0].toNat : Int) == 46) = false := by simp; omega
          have z2 : ¬ 48 ≤ (s[0].toNat : Int) := by omega
          have z3 : ((s[0].toNat : Int) != 45) = false := by simp; omega
          go_wp2_with fail
          refine ⟨⟨0 + 1, by omega, by go_num, ?_, ?_, ?_⟩, by first | (simp [intOf]; done) | (simp [intOf]; omega)⟩
          all_goals rw [st.out]; unfold Rt.stp; rw [if_neg h46, if_neg hd]
          · rw [E.out.1]
          · rw [E.out.2.1]
          · rw [E.out.2.2]
    · obtain rfl : j = s.size := by omega
      have hT : s.data.toList.take s.size = s.data.toList := List.take_of_length_le (by simp)
      rw [hT, hp.out]
      clear hT hlt
      have mm : max (if k = 0 then -1 else (k : Int)) 0 = (k : Int) := by split <;> omega
      obtain ⟨B, hB⟩ : ∃ B : Int, (if k = 0 then -1 else (k : Int)) = B := ⟨_, rfl⟩
      rw [hB] at mm ⊢
      clear hB
      rcases sg.out with ⟨g1, g2, g3, g4, g5⟩ | ⟨g3, g4, g5⟩
      · have z1 : ((s[0].toNat : Int) == 45) = true := by simp; omega
        have z2 : (U == 0) = false := by simp; omega
        obtain ⟨V, hV⟩ : ∃ V, -U = V := ⟨_, rfl⟩
        have hVD : V * D = -(U * D) := by rw [← hV, Int.neg_mul]
        have v1 : -100000000000000000 ≤ V * D := by omega
        have v2 : V * D ≤ 0 := by omega
        have v3 : 2 * (V * D - N * P) ≤ D := by omega
        have v4 : -D ≤ 2 * (V * D - N * P) := by omega
        clear hVD g4 g5 g3
        go_wp2_with (go_at_call 8; refine (known_any _).mono ?_; rintro e w' ⟨rfl, X, rfl⟩)
        go_ret
        exact ⟨rfl, (by repeat (first | exact Und.refl _ | assumption | refine Und.under ?_ _ | refine Und.alloc ?_ _ | refine Und.drew ?_ | refine Und.drewN ?_ _))⟩
      · unfold Rt.isD at g3
        have z1 : ((s[0].toNat : Int) == 45) = false := by simp; omega
        clear g3
        go_wp2_with (go_at_call 8; refine (known_any _).mono ?_; rintro e w' ⟨rfl, X, rfl⟩)
        go_ret
        exact ⟨rfl, (by repeat (first | exact Und.refl _ | assumption | refine Und.under ?_ _ | refine Und.alloc ?_ _ | refine Und.drew ?_ | refine Und.drewN ?_ _))⟩

theorem rounds_any (a b d : Int) (w : World) (t : Tab w) : Calls Tryd.prog 4 #[.int .i64 a, .int .i64 b, .int .i64 d] w fun e w' => e = .returned (.bool true) ∧ Und w w' := by
  have sx := Rt.someR_sm a b 65536 (by omega)
  have ox := sx.ok (by omega) (by omega)
  obtain ⟨q, hq⟩ : ∃ q, Rt.someR a b 65536 = q := ⟨_, rfl⟩
  rw [hq] at sx ox
  have bd := sx.bd
  have hv := Rt.vB_of _ ox
  obtain ⟨N, hN⟩ : ∃ N, q.num = N := ⟨_, rfl⟩
  obtain ⟨D, hD⟩ : ∃ D : Int, (q.den : Int) = D := ⟨_, rfl⟩
  rw [hN, hD] at bd hv
  obtain ⟨N1, N2, D1, D2⟩ := bd
  have hu : IntKind.u64.wrap d = d % 18446744073709551616 := by rw [IntKind.wrap_u64]
  obtain ⟨k, hk⟩ : ∃ k : Nat, d % 18446744073709551616 % 7 = (k : Int) := ⟨(d % 18446744073709551616 % 7).toNat, by omega⟩
  have k6 : k ≤ 6 := by omega
  have hub := Rt.units_bd (a := N) (b := D) (k := k) (by omega) (by omega) D1 (by omega) k6
  have hlen := Rt.fmt_len N D k (by omega) (by omega) D1 (by omega) k6
  have hp := Rt.pst_fmt N D k k6 hub.1
  have hbytes := Rt.fmt_bytes N D k
  obtain ⟨c0, r0, hl, hsg⟩ := Rt.fmt_head N D k
  have hm := Rt.mag_bd N
  have hP1 := Rt.p10_pos k
  have hP2 := Rt.p10_six k6
  have hf := Rt.half N D k D1
  obtain ⟨U, hU⟩ : ∃ U, Rt.units N D k = U := ⟨_, rfl⟩
  obtain ⟨P, hP⟩ : ∃ P : Int, (Rt.p10 k : Int) = P := ⟨_, rfl⟩
  rw [hU, hP] at hf hp
  rw [hU] at hub hsg
  have hmP : Rt.mag N * P ≤ 65536 * 1000000 := by
    have := (Rt.mul2_bd (Rt.mag N) P (by omega) (by omega) (by omega) (by omega)).1
    have e : (Rt.mag N * P).natAbs ≤ 65536 * 1000000 := by rw [Int.natAbs_mul]; exact Nat.mul_le_mul (by omega) (by omega)
    omega
  have hmP0 := Int.mul_nonneg (show 0 ≤ Rt.mag N by omega) (show 0 ≤ P by omega)
  have hNP : (N < 0 ∧ N * P = -(Rt.mag N * P)) ∨ (0 ≤ N ∧ N * P = Rt.mag N * P) := by
    by_cases h : N < 0
    · left; refine ⟨h, ?_⟩; have : Rt.mag N = -N := by omega
      rw [this, Int.neg_mul, Int.neg_neg]
    · right; refine ⟨by omega, ?_⟩; have : Rt.mag N = N := by unfold Rt.mag; rw [if_neg h]
      rw [this]
  have hUD0 := Int.mul_nonneg hub.1 (show 0 ≤ D by omega)
  have hU1 : U ≤ U * D := by
    have := Int.mul_le_mul_of_nonneg_left (show 1 ≤ D by omega) hub.1
    omega
  refine rounds_core a b d _ k q ⟨(Rt.fmtL N D k).toArray⟩ N D w (hid t) (hid hq) hN hD (hid ⟨hv, k6, rfl⟩) ?_ ?_ hu (by omega) (by omega) hk k6 U P (hid ?_) hub.1 (by omega) hUD0 (by omega) (by omega) (by omega) (hid ?_) (hid ?_)
  · show 1 ≤ (Rt.fmtL N D k).toArray.size
    rw [hl]; simp
  · show (Rt.fmtL N D k).toArray.size ≤ 18
    simpa using hlen
  · exact hp
  · have e0 : ∀ h, (⟨(Rt.fmtL N D k).toArray⟩ : ByteArray)[0]'h = c0 := by
      intro h
      show (Rt.fmtL N D k).toArray[0] = c0
      simp [hl]
    rw [e0]
    rcases hsg with ⟨g1, g2, g3⟩ | ⟨g1, g2⟩
    · left; refine ⟨g1, g2, g3, ?_⟩; omega
    · right; refine ⟨g2, ?_⟩
      rcases hNP with ⟨h1, h2⟩ | ⟨h1, h2⟩
      · have hU0 : U = 0 := by omega
        subst hU0
        simp only [Int.zero_mul] at hf ⊢
        omega
      · omega
  · intro i h
    have hi : (Rt.fmtL N D k)[i]? = some ((⟨(Rt.fmtL N D k).toArray⟩ : ByteArray)[i]'h) := by
      show _ = some ((Rt.fmtL N D k).toArray[i])
      simp
    rcases hbytes i _ hi with h1 | h1 | h1
    · exact Or.inl h1
    · exact Or.inr (Or.inl h1)
    · exact Or.inr (Or.inr ⟨h1.1, h1.2.1⟩)
end Go.Proofs.YtoalkjfdddjjaaaDoor
