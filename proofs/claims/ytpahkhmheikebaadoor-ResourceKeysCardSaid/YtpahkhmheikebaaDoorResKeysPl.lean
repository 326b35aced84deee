/- Plain: what a file of one line, or of one line twice, gives. No program in sight. -/
import Derived.Test.YtpahkhmheikebaaDoorResSplPl
namespace Go.Proofs.YtpahkhmheikebaaDoor.St

theorem keyN_pre {K R : List UInt8} (h : ∀ c ∈ K, keyC c = true) (hR : ∀ c r, R = c :: r → keyC c = false) : keyN (K ++ R) = K.length := by
  unfold keyN
  rw [List.takeWhile_append_of_pos h]
  cases R with
  | nil => simp
  | cons c r => rw [List.takeWhile_cons_of_neg (by simp [hR c r rfl])]; simp
theorem skip_first {c : UInt8} {r : List UInt8} (h : c.toNat ≠ 10 ∧ c.toNat ≠ 35 ∧ c.toNat ≠ 32 ∧ c.toNat ≠ 9) : skipB (c :: r) = false := by
  have hb : blkC c = false := decide_eq_false (by omega)
  unfold skipB
  rw [List.dropWhile_cons_of_neg (by simp [hb])]
  exact decide_eq_false (by omega)
section
variable {dE : List UInt8 → Nat × Int} {d : List UInt8} {fuel a : Nat} {s : PS} {K R : List UInt8}
theorem key_first (h : ∀ c ∈ K, keyC c = true) (h0 : K ≠ []) (R : List UInt8) : skipB (K ++ R) = false := by
  cases K with
  | nil => exact absurd rfl h0
  | cons c K =>
    have hc := h c (by simp)
    unfold keyC at hc
    have := of_decide_eq_true hc
    exact skip_first (by omega)
theorem cut_at (d : List UInt8) (a n : Nat) : cutL d a (a + n) = (d.drop a).take n := by
  unfold cutL
  rw [List.drop_take]; congr 1; omega
theorem line_good (hd : d.drop a = K ++ 61 :: 118 :: 10 :: R) (h : ∀ c ∈ K, keyC c = true) (h0 : K ≠ []) (h64 : K.length ≤ 64) :
    ¬ d.length ≤ a ∧ skipB (d.drop a) = false ∧ keyN (d.drop a) = K.length ∧ ¬ (K.length = 0 ∨ 64 < K.length ∨ ((d.drop (a + K.length)).head?.map UInt8.toNat) ≠ some 61) ∧ cutL d a (a + K.length) = K := by
  have hl := congrArg List.length hd
  simp at hl
  refine ⟨by omega, by rw [hd]; exact key_first h h0 _, by rw [hd]; exact keyN_pre h (fun c r e => by simp at e; rw [← e.1]; rfl), ?_, by rw [cut_at, hd, List.take_left]⟩
  have : d.drop (a + K.length) = 61 :: 118 :: 10 :: R := by rw [← List.drop_drop, hd, List.drop_left]
  rw [this]
  have h1 : K.length ≠ 0 := fun e => h0 (List.eq_nil_of_length_eq_zero e)
  rintro (h2 | h2 | h2)
  · exact h1 h2
  · omega
  · exact h2 rfl
theorem line_unit (hE : (dE [118]).2 = 0) (hd : d.drop a = K ++ 61 :: 118 :: 10 :: R) (h : ∀ c ∈ K, keyC c = true) (h0 : K ≠ []) (h64 : K.length ≤ 64) (hk : hasK s.1 K = false) :
    resS dE d (fuel + 1) a s = resS dE d fuel (a + K.length + 3) (unitS d s (a + K.length + 1) (a + K.length + 2) K) ∧ d.drop (a + K.length + 3) = R := by
  obtain ⟨g1, g2, g3, g4, g5⟩ := line_good hd h h0 h64
  have d1 : d.drop (a + K.length + 1) = 118 :: 10 :: R := by rw [← List.drop_drop, ← List.drop_drop, hd, List.drop_left]; rfl
  have hl := congrArg List.length d1
  simp at hl
  have hen : a + K.length + 1 + endN (d.drop (a + K.length + 1)) = a + K.length + 2 := by
    have : endN (118 :: 10 :: R) = 1 := by
      rw [endN.eq_def]; simp only []; rw [if_neg (by decide), if_neg (by decide), endN.eq_def]; simp only []; rw [if_pos (by decide)]
    rw [d1, this]
  have hcv : cutL d (a + K.length + 1) (a + K.length + 2) = [118] := by
    rw [show a + K.length + 2 = (a + K.length + 1) + 1 by omega, cut_at, d1]; rfl
  have := resS_unit (dE := dE) (d := d) (fuel := fuel) (a := a) (s := s) g1 g2 (by rw [g3]; exact g4) (by rw [g3, g5]; exact hk) (n := K.length) (b := a + K.length + 1) (t := a + K.length + 2) g3 rfl hen (by rw [hcv]; exact hE)
  rw [this, g5, Nat.min_eq_left (by omega)]
  refine ⟨rfl, ?_⟩
  rw [show a + K.length + 3 = (a + K.length + 1) + 2 by omega, ← List.drop_drop, d1]; rfl
theorem line_dup (hd : d.drop a = K ++ 61 :: 118 :: 10 :: R) (h : ∀ c ∈ K, keyC c = true) (h0 : K ≠ []) (h64 : K.length ≤ 64) (hk : hasK s.1 K = true) :
    resS dE d (fuel + 1) a s = .error (a, 5) := by
  obtain ⟨g1, g2, g3, g4, g5⟩ := line_good hd h h0 h64
  exact resS_dup g1 g2 (by rw [g3]; exact g4) (by rw [g3, g5]; exact hk)
end
def lineD (K : List UInt8) : List UInt8 := K ++ [61, 118, 10]
theorem one_ok {dE : List UInt8 → Nat × Int} (hE : (dE [118]).2 = 0) {K : List UInt8} (h : ∀ c ∈ K, keyC c = true) (h0 : K ≠ []) (h64 : K.length ≤ 64) :
    ∃ x y, splitR dE (lineD K) = ([(false, [], x), (true, K, [118]), (false, [], y)], 0, 0) := by
  have hl : (lineD K).length = K.length + 3 := by simp [lineD]
  rw [splitR_ok (by omega), hl]
  obtain ⟨h1, h2⟩ := line_unit (dE := dE) (d := lineD K) (fuel := K.length + 3) (a := 0) (s := ([], 0)) (R := []) hE rfl h h0 h64 rfl
  rw [h1, resS_end (by omega)]
  have hcv : cutL (lineD K) (0 + K.length + 1) (0 + K.length + 2) = [118] := by
    rw [show 0 + K.length + 2 = (0 + K.length + 1) + 1 by omega, cut_at]
    have : (lineD K).drop (0 + K.length + 1) = [118, 10] := by rw [Nat.zero_add, ← List.drop_drop, lineD, List.drop_left]; rfl
    rw [this]; rfl
  unfold endR' endS unitS
  rw [hcv]
  exact ⟨_, _, rfl⟩
theorem two_dup {dE : List UInt8 → Nat × Int} (hE : (dE [118]).2 = 0) {K : List UInt8} (h : ∀ c ∈ K, keyC c = true) (h0 : K ≠ []) (h64 : K.length ≤ 64) :
    splitR dE (lineD K ++ lineD K) = ([], K.length + 3, 5) := by
  have hl : (lineD K ++ lineD K).length = K.length + 4 + K.length + 1 + 1 := by simp [lineD]; omega
  have hd : (lineD K ++ lineD K).drop 0 = K ++ 61 :: 118 :: 10 :: lineD K := by simp [lineD]
  rw [splitR_ok (by omega), hl]
  obtain ⟨h1, h2⟩ := line_unit (dE := dE) (fuel := K.length + 4 + K.length + 1 + 1) (a := 0) (s := ([], 0)) hE hd h h0 h64 rfl
  rw [h1]
  have hd2 : (lineD K ++ lineD K).drop (0 + K.length + 3) = K ++ 61 :: 118 :: 10 :: [] := by rw [h2]; rfl
  rw [line_dup hd2 h h0 h64 (by simp [unitS, hasK])]
  simp [endR']
theorem bad_zero {dE : List UInt8 → Nat × Int} {d : List UInt8} (h0 : d ≠ []) (hl : d.length ≤ 65536) (h1 : skipB d = false) (h2 : keyN d = 0 ∨ 64 < keyN d ∨ ((d.drop (keyN d)).head?.map UInt8.toNat) ≠ some 61) : splitR dE d = ([], 0, 2) := by
  rw [splitR_ok (by omega), resS_bad (by simpa using h0) (by simpa using h1) (by simpa using h2)]
  rfl
/-- A key's last byte that is none of a key's. -/
theorem bad_last {dE : List UInt8 → Nat × Int} {n : Nat} {c : UInt8} {R : List UInt8} (hl : n + R.length ≤ 60000) (h : keyC c = false) (hc : c.toNat ≠ 10 ∧ c.toNat ≠ 35 ∧ c.toNat ≠ 32 ∧ c.toNat ≠ 9 ∧ c.toNat ≠ 61) : splitR dE (List.replicate n 107 ++ c :: R) = ([], 0, 2) := by
  have hk : keyN (List.replicate n 107 ++ c :: R) = n := by
    have := keyN_pre (K := List.replicate n 107) (R := c :: R) (fun x hx => by rw [(List.mem_replicate.1 hx).2]; rfl) (fun x r e => by simp at e; rw [← e.1]; exact h)
    simpa using this
  refine bad_zero (by simp) (by simp; omega) ?_ (.inr (.inr ?_))
  · cases n with
    | zero => exact skip_first (by omega)
    | succ n => rw [List.replicate_succ, List.cons_append]; exact skip_first (by decide)
  · rw [hk, List.drop_append_of_le_length (by simp), List.drop_of_length_le (by simp)]
    simp; omega
/-- A key that is too long. -/
theorem bad_long {dE : List UInt8 → Nat × Int} {K R : List UInt8} (hl : K.length + R.length ≤ 60000) (h : ∀ c ∈ K, keyC c = true) (h64 : 64 < K.length) : splitR dE (K ++ 61 :: R) = ([], 0, 2) := by
  have hk : keyN (K ++ 61 :: R) = K.length := keyN_pre h (fun x r e => by simp at e; rw [← e.1]; rfl)
  exact bad_zero (by simp) (by simp; omega) (key_first h (by intro e; rw [e] at h64; simp at h64) _) (.inr (.inl (by rw [hk]; exact h64)))
end Go.Proofs.YtpahkhmheikebaaDoor.St
