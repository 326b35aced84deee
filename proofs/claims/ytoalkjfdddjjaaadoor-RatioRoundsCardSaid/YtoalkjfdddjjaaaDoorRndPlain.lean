/- Plain: reading a decimal notation back; the rounded number differs by at most half a unit of the last digit. No program in sight. -/
import Derived.Test.YtoalkjfdddjjaaaDoorFmtPlain
namespace Go.Proofs.YtoalkjfdddjjaaaDoor.Rt

def dv (c : UInt8) : Int := (c.toNat : Int) - 48
def isD (c : UInt8) : Prop := 48 ≤ c.toNat ∧ c.toNat ≤ 57
/-- One byte read: the number, the count of digits behind the point (-1 ahead of it), the power. -/
def stp (st : Int × Int × Int) (c : UInt8) : Int × Int × Int :=
  if c.toNat = 46 then (st.1, 0, st.2.2)
  else if 48 ≤ c.toNat ∧ c.toNat ≤ 57 then (if 0 ≤ st.2.1 then (10 * st.1 + dv c, st.2.1 + 1, st.2.2 * 10) else (10 * st.1 + dv c, st.2.1, st.2.2))
  else st
def pst (l : List UInt8) : Int × Int × Int := l.foldl stp (0, -1, 1)
def dval (ds : List UInt8) : Int := ds.foldl (fun n c => 10 * n + dv c) 0

theorem fold_val (ds : List UInt8) : ∀ n : Int, ds.foldl (fun n c => 10 * n + dv c) n = n * (p10 ds.length : Int) + dval ds := by
  induction ds with
  | nil => intro n; simp [dval, p10]
  | cons c ds ih =>
    intro n
    have e : (p10 (c :: ds).length : Int) = p10 ds.length * 10 := by simp [p10]
    unfold dval
    rw [List.foldl_cons, List.foldl_cons, ih, ih (10 * 0 + dv c), e]
    simp only [Int.mul_zero, Int.zero_add]
    rw [Int.add_mul, Int.add_assoc, Int.mul_comm 10 n, Int.mul_assoc, Int.mul_comm 10]
theorem stp_ahead (ds : List UInt8) (hd : ∀ c ∈ ds, isD c) : ∀ n p : Int, ds.foldl stp (n, -1, p) = (n * (p10 ds.length : Int) + dval ds, -1, p) := by
  induction ds with
  | nil => intro n p; simp [dval, p10]
  | cons c ds ih =>
    intro n p
    have hc := hd c (by simp)
    have e1 : stp (n, -1, p) c = (10 * n + dv c, -1, p) := by unfold stp; unfold isD at hc; rw [if_neg (by omega), if_pos hc, if_neg (by simp)]
    rw [List.foldl_cons, e1, ih (fun x hx => hd x (by simp [hx]))]
    have := fold_val ds (10 * n + dv c)
    have h2 := fold_val (c :: ds) n
    rw [List.foldl_cons] at h2
    rw [← this, h2]
theorem stp_behind (ds : List UInt8) (hd : ∀ c ∈ ds, isD c) : ∀ (n p : Int) (b : Nat), ds.foldl stp (n, (b : Int), p) = (n * (p10 ds.length : Int) + dval ds, ((b + ds.length : Nat) : Int), p * (p10 ds.length : Int)) := by
  induction ds with
  | nil => intro n p b; simp [dval, p10]
  | cons c ds ih =>
    intro n p b
    have hc := hd c (by simp)
    have e1 : stp (n, (b : Int), p) c = (10 * n + dv c, ((b + 1 : Nat) : Int), p * 10) := by unfold stp; unfold isD at hc; rw [if_neg (by omega), if_pos hc, if_pos (by simp)]; simp
    rw [List.foldl_cons, e1, ih (fun x hx => hd x (by simp [hx]))]
    have := fold_val ds (10 * n + dv c)
    have h2 := fold_val (c :: ds) n
    rw [List.foldl_cons] at h2
    have e : (p10 (c :: ds).length : Int) = p10 ds.length * 10 := by simp [p10]
    rw [← this, ← h2, e]
    refine Prod.ext rfl (Prod.ext ?_ ?_)
    · simp; omega
    · simp only [Int.mul_assoc, Int.mul_comm 10]

theorem dec_isD : ∀ (u : Nat), ∀ c ∈ Lib.decDigits u, isD c := by
  intro u
  induction u using Nat.strongRecOn with
  | _ u ih =>
    intro c hc
    rw [Lib.decDigits] at hc
    split at hc
    · simp at hc; subst hc; unfold isD; simp; omega
    · rcases List.mem_append.1 hc with h | h
      · exact ih (u / 10) (by omega) c h
      · simp at h; subst h; unfold isD; simp; omega
theorem dval_dec : ∀ (u : Nat), dval (Lib.decDigits u) = u := by
  intro u
  induction u using Nat.strongRecOn with
  | _ u ih =>
    rw [Lib.decDigits]
    split
    · simp [dval, dv]; omega
    · unfold dval
      rw [List.foldl_append]
      have := ih (u / 10) (by omega)
      unfold dval at this
      rw [this]
      simp [dv]
      omega
theorem dval_zeros (z : Nat) (ds : List UInt8) : dval (List.replicate z 48 ++ ds) = dval ds := by
  induction z with
  | zero => rfl
  | succ z ih => rw [List.replicate_succ, List.cons_append]; unfold dval; rw [List.foldl_cons]; exact ih

/-- Bounds behind i bytes. -/
theorem pst_bd (l : List UInt8) : ∀ i, i ≤ l.length → 0 ≤ (pst (l.take i)).1 ∧ (pst (l.take i)).1 < p10 i ∧ -1 ≤ (pst (l.take i)).2.1 ∧ (pst (l.take i)).2.1 ≤ i ∧ 1 ≤ (pst (l.take i)).2.2 ∧ (pst (l.take i)).2.2 ≤ p10 i := by
  intro i
  induction i with
  | zero => intro _; simp [pst, p10]
  | succ i ih =>
    intro h
    obtain ⟨h1, h2, h3, h4, h5, h6⟩ := ih (by omega)
    have e : pst (l.take (i + 1)) = stp (pst (l.take i)) (l[i]'(by omega)) := by
      unfold pst; rw [List.take_succ_eq_append_getElem (by omega), List.foldl_append]; rfl
    have e2 : (p10 (i + 1) : Int) = p10 i * 10 := by simp [p10]
    have hp := p10_pos i
    rw [e, e2]
    unfold stp
    split
    · simp; omega
    · split
      · rename_i hd
        split
        · simp [dv]; omega
        · simp [dv]; omega
      · omega
theorem pst_step (s : ByteArray) (i : Nat) (h : i < s.size) : pst (s.data.toList.take (i + 1)) = stp (pst (s.data.toList.take i)) s[i] := by
  unfold pst
  rw [List.take_succ_eq_append_getElem (by simpa using h), List.foldl_append]
  rfl

/-- What a whole notation reads as. -/
theorem pst_fmt (a b : Int) (k : Nat) (hk : k ≤ 6) (hu : 0 ≤ units a b k) : pst (fmtL a b k) = (units a b k, if k = 0 then -1 else (k : Int), (p10 k : Int)) := by
  obtain ⟨n, hn⟩ : ∃ n, units a b k = n := ⟨_, rfl⟩
  obtain ⟨P, hP⟩ : ∃ P : Int, (p10 k : Int) = P := ⟨_, rfl⟩
  have hp := p10_pos k
  have q1 := Int.ediv_nonneg hu (by omega : 0 ≤ P)
  rw [hn] at hu
  have q1' : 0 ≤ n / P := Int.ediv_nonneg hu (by omega)
  have q2 : 0 ≤ n % P := Int.emod_nonneg _ (by omega)
  have q3 : n % P < P := Int.emod_lt_of_pos _ (by omega)
  have q4 : P * (n / P) + n % P = n := Int.mul_ediv_add_emod n P
  have body : pst (Lib.decDigits (n / P).toNat ++ (if k = 0 then [] else 46 :: (List.replicate (k - (Lib.decDigits (n % P).toNat).length) 48 ++ Lib.decDigits (n % P).toNat))) = (n, if k = 0 then -1 else (k : Int), P) := by
    unfold pst
    rw [List.foldl_append, stp_ahead _ (dec_isD _), dval_dec]
    by_cases h0 : k = 0
    · subst h0
      have : P = 1 := hP.symm
      subst this
      simp
      omega
    · have hl := digits_le (u := (n % P).toNat) (k := k) (by omega) (by omega)
      rw [if_neg h0, if_neg h0, List.foldl_cons]
      have e1 : stp (0 * (p10 (Lib.decDigits (n / P).toNat).length : Int) + ((n / P).toNat : Int), -1, 1) 46 = (((n / P).toNat : Int), ((0 : Nat) : Int), 1) := by unfold stp; rw [if_pos (by decide)]; simp
      rw [e1, stp_behind _ (fun c hc => by
        rcases List.mem_append.1 hc with h | h
        · have := List.eq_of_mem_replicate h; subst this; unfold isD; decide
        · exact dec_isD _ c h), dval_zeros, dval_dec]
      have e2 : (List.replicate (k - (Lib.decDigits (n % P).toNat).length) 48 ++ Lib.decDigits (n % P).toNat).length = k := by simp; omega
      rw [e2, hP]
      refine Prod.ext ?_ (Prod.ext ?_ ?_)
      · show ((n / P).toNat : Int) * P + ((n % P).toNat : Int) = n
        rw [Int.toNat_of_nonneg q1', Int.toNat_of_nonneg q2, Int.mul_comm]; exact q4
      · simp
      · simp
  unfold fmtL
  simp only [hn, hP]
  split
  · unfold pst at body ⊢
    rw [List.foldl_cons]
    have e0 : stp (0, -1, 1) 45 = (0, -1, 1) := by unfold stp; rw [if_neg (by decide), if_neg (by decide)]
    rw [e0]
    exact body
  · exact body

theorem fmt_bytes (a b : Int) (k : Nat) : ∀ i c, (fmtL a b k)[i]? = some c → c.toNat = 46 ∨ isD c ∨ (i = 0 ∧ c.toNat = 45 ∧ a < 0 ∧ 0 < units a b k) := by
  have body : ∀ c ∈ Lib.decDigits (units a b k / (p10 k : Int)).toNat ++ (if k = 0 then [] else 46 :: (List.replicate (k - (Lib.decDigits (units a b k % (p10 k : Int)).toNat).length) 48 ++ Lib.decDigits (units a b k % (p10 k : Int)).toNat)), c.toNat = 46 ∨ isD c := by
    intro c hc
    rcases List.mem_append.1 hc with h | h
    · exact Or.inr (dec_isD _ c h)
    · split at h
      · cases h
      · rcases List.mem_cons.1 h with rfl | h
        · left; decide
        · rcases List.mem_append.1 h with h | h
          · right; have := List.eq_of_mem_replicate h; subst this; unfold isD; decide
          · exact Or.inr (dec_isD _ c h)
  intro i c hc
  unfold fmtL at hc
  simp only at hc
  split at hc
  · rename_i hs
    match i, hc with
    | 0, hc => simp at hc; subst hc; exact Or.inr (Or.inr ⟨rfl, by decide, hs.1, hs.2⟩)
    | i + 1, hc =>
      rw [List.getElem?_cons_succ] at hc
      rcases body c (List.mem_of_getElem? hc) with h | h
      · exact Or.inl h
      · exact Or.inr (Or.inl h)
  · rcases body c (List.mem_of_getElem? hc) with h | h
    · exact Or.inl h
    · exact Or.inr (Or.inl h)
theorem dec_head (u : Nat) : ∃ c r, Lib.decDigits u = c :: r ∧ isD c := by
  have h := dec_isD u
  cases e : Lib.decDigits u with
  | nil => have := Lib.nDigits_pos u; rw [← Lib.decDigits_length, e] at this; simp at this
  | cons c r => rw [e] at h; exact ⟨c, r, rfl, h c (by simp)⟩
/-- The first byte is a sign exactly where the ratio is negative and its rounding is not 0. -/
theorem fmt_head (a b : Int) (k : Nat) : ∃ c r, fmtL a b k = c :: r ∧ ((a < 0 ∧ 0 < units a b k ∧ c.toNat = 45) ∨ (¬ (a < 0 ∧ 0 < units a b k) ∧ isD c)) := by
  obtain ⟨c, r, e, hd⟩ := dec_head (units a b k / (p10 k : Int)).toNat
  unfold fmtL
  simp only [e]
  by_cases h : a < 0 ∧ 0 < units a b k
  · rw [if_pos h]; exact ⟨_, _, rfl, Or.inl ⟨h.1, h.2, by decide⟩⟩
  · rw [if_neg h]; exact ⟨c, _, rfl, Or.inr ⟨h, hd⟩⟩
theorem fmt_len (a b : Int) (k : Nat) (h1 : -65536 ≤ a) (h2 : a ≤ 65536) (h3 : 1 ≤ b) (h4 : b ≤ 65536) (hk : k ≤ 6) : (fmtL a b k).length ≤ 18 := by
  have hm := mag_bd a
  have hp := p10_pos k
  obtain ⟨P, hP⟩ : ∃ P : Int, (p10 k : Int) = P := ⟨_, rfl⟩
  have hq : units a b k / P ≤ 131073 := by
    unfold units
    rw [hP, Int.ediv_ediv_of_nonneg (by omega)]
    have e : (2 * mag a * P + b) ≤ 131073 * (2 * b * P) := by
      have x1 := Int.mul_le_mul_of_nonneg_right (show 2 * mag a ≤ 131072 by omega) (show 0 ≤ P by omega)
      have x2 := Int.mul_le_mul_of_nonneg_left (show 1 ≤ P by omega) (show 0 ≤ b by omega)
      have x3 : b * P * 262146 = 131073 * (2 * b * P) := by
        rw [Int.mul_assoc 2 b P]; omega
      have x4 := Int.mul_le_mul_of_nonneg_right (show 1 ≤ b by omega) (show 0 ≤ P by omega)
      omega
    have hbp : 0 < 2 * b * P := Int.mul_pos (by omega) (by omega)
    have := Int.ediv_le_ediv hbp e
    rwa [Int.mul_ediv_cancel _ (by omega)] at this
  have d1 := digits_le (u := (units a b k / P).toNat) (k := 9) (by show _ < 1000000000; omega) (by omega)
  have hz : ∀ (z : Nat) (ds : List UInt8), ds.length ≤ 7 → z ≤ 7 - ds.length → (List.replicate z 48 ++ ds).length ≤ 7 := by intro z ds h h'; simp; omega
  by_cases h0 : k = 0
  · subst h0
    unfold fmtL
    simp only [hP]
    split <;> simp <;> omega
  · have d2 := digits_le (u := (units a b k % P).toNat) (k := k) (by
      have := Int.emod_lt_of_pos (units a b k) (by omega : 0 < P)
      have := Int.emod_nonneg (units a b k) (by omega : P ≠ 0)
      omega) (by omega)
    unfold fmtL
    simp only [hP, if_neg h0]
    split <;> simp <;> omega
/-- Half a unit. -/
theorem half (a b : Int) (k : Nat) (h3 : 1 ≤ b) : 2 * (units a b k * b - mag a * (p10 k : Int)) ≤ b ∧ -b ≤ 2 * (units a b k * b - mag a * (p10 k : Int)) := by
  obtain ⟨n, hn⟩ : ∃ n, units a b k = n := ⟨_, rfl⟩
  have h := hn
  unfold units at h
  rw [Int.ediv_eq_iff_of_pos (by omega)] at h
  have e1 : n * (2 * b) = 2 * (n * b) := by rw [Int.mul_left_comm]
  have e2 : 2 * mag a * (p10 k : Int) = 2 * (mag a * (p10 k : Int)) := Int.mul_assoc _ _ _
  rw [e1, e2] at h
  rw [hn]
  omega
end Go.Proofs.YtoalkjfdddjjaaaDoor.Rt
