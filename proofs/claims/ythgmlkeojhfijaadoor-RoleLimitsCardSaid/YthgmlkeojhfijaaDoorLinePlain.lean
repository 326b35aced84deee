/- Plain: the lines of a text of users, the words of a line, a document's number, the user of a line, and the users of a text. No program in sight. -/
import Derived.Lib.Split
import Derived.Lib.AtoiAll
import Derived.Lib.IndexBytes
import Derived.Lib.ItoaNum
namespace Go.Proofs.YthgmlkeojhfijaaDoor.Ln
open Go

/-- A line's words: cut at each blank. -/
def words : List UInt8 → List (List UInt8)
  | [] => [[]]
  | c :: r => if c.toNat = 32 then [] :: words r else match words r with | w :: ws => (c :: w) :: ws | [] => [[c]]
/-- A text's lines, each with whether a line feed ends it. -/
def lines : List UInt8 → List (List UInt8 × Bool)
  | [] => []
  | c :: r => if c.toNat = 10 then ([], true) :: lines r else match lines r with | (s, f) :: ls => (c :: s, f) :: ls | [] => [([c], false)]

theorem words_ne (l : List UInt8) : words l ≠ [] := by
  cases l with
  | nil => simp [words]
  | cons c r => unfold words; split; simp; split <;> simp
theorem words_none : ∀ (l : List UInt8), (∀ c ∈ l, c.toNat ≠ 32) → words l = [l]
  | [], _ => rfl
  | c :: r, h => by
    have ih := words_none r (fun x hx => h x (List.mem_cons_of_mem _ hx))
    unfold words
    rw [if_neg (h c List.mem_cons_self), ih]
theorem words_at : ∀ (a b : List UInt8) (c : UInt8), (∀ x ∈ a, x.toNat ≠ 32) → c.toNat = 32 → words (a ++ c :: b) = a :: words b
  | [], b, c, _, hc => by simp only [List.nil_append]; rw [words, if_pos hc]
  | x :: a, b, c, h, hc => by
    have ih := words_at a b c (fun y hy => h y (List.mem_cons_of_mem _ hy)) hc
    simp only [List.cons_append]
    rw [words, if_neg (h x List.mem_cons_self), ih]
theorem words_le : ∀ (l : List UInt8), ∀ w ∈ words l, w.length ≤ l.length
  | [], w, h => by simp [words] at h; subst h; simp
  | c :: r, w, h => by
    have ih := words_le r
    unfold words at h
    split at h
    · rcases List.mem_cons.1 h with rfl | h
      · simp
      · have := ih w h; simp; omega
    · split at h
      · rename_i x xs hx
        rcases List.mem_cons.1 h with rfl | h
        · have := ih x (by rw [hx]; exact List.mem_cons_self); simp; omega
        · have := ih w (by rw [hx]; exact List.mem_cons_of_mem _ h); simp; omega
      · simp at h; subst h; simp
theorem lines_none : ∀ (l : List UInt8), l ≠ [] → (∀ c ∈ l, c.toNat ≠ 10) → lines l = [(l, false)]
  | [], h, _ => absurd rfl h
  | c :: r, _, h => by
    unfold lines
    rw [if_neg (h c List.mem_cons_self)]
    cases r with
    | nil => rfl
    | cons d r => rw [lines_none (d :: r) (by simp) (fun x hx => h x (List.mem_cons_of_mem _ hx))]
theorem lines_at : ∀ (a b : List UInt8) (c : UInt8), (∀ x ∈ a, x.toNat ≠ 10) → c.toNat = 10 → lines (a ++ c :: b) = (a, true) :: lines b
  | [], b, c, _, hc => by simp only [List.nil_append]; rw [lines, if_pos hc]
  | x :: a, b, c, h, hc => by
    have ih := lines_at a b c (fun y hy => h y (List.mem_cons_of_mem _ hy)) hc
    simp only [List.cons_append]
    rw [lines, if_neg (h x List.mem_cons_self), ih]

theorem lines_le : ∀ (l : List UInt8), ∀ x ∈ lines l, x.1.length ≤ l.length
  | [], x, h => by simp [lines] at h
  | c :: r, x, h => by
    have ih := lines_le r
    unfold lines at h
    split at h
    · rcases List.mem_cons.1 h with rfl | h
      · simp
      · have := ih x h; simp; omega
    · split at h
      · rename_i s f ls hx
        rcases List.mem_cons.1 h with rfl | h
        · have := ih (s, f) (by rw [hx]; exact List.mem_cons_self); simp at this ⊢; omega
        · have := ih x (by rw [hx]; exact List.mem_cons_of_mem _ h); simp; omega
      · simp at h; subst h; simp
theorem u8_eq {c d : UInt8} (h : c.toNat = d.toNat) : c = d := UInt8.toNat_inj.1 h
theorem indexByte_split : ∀ (l : List UInt8) (c : UInt8), (Lib.indexByte l c = -1 ∧ ∀ x ∈ l, x ≠ c) ∨ ∃ i : Nat, Lib.indexByte l c = i ∧ ∃ a b, l = a ++ c :: b ∧ a.length = i ∧ ∀ x ∈ a, x ≠ c
  | [], c => Or.inl ⟨rfl, fun x h => by cases h⟩
  | d :: l, c => by
    unfold Lib.indexByte
    by_cases h : (d == c) = true
    · rw [if_pos h]
      have : d = c := by simpa using h
      subst this
      exact Or.inr ⟨0, rfl, [], l, rfl, rfl, fun x hx => by cases hx⟩
    · rw [if_neg h]
      have hne : d ≠ c := by simpa using h
      rcases indexByte_split l c with ⟨e, hn⟩ | ⟨i, e, a, b, rfl, hl, hn⟩
      · rw [e]
        refine Or.inl ⟨by simp, fun x hx => ?_⟩
        rcases List.mem_cons.1 hx with rfl | hx
        · exact hne
        · exact hn x hx
      · rw [e]
        refine Or.inr ⟨i + 1, ?_, d :: a, b, rfl, by simp [hl], fun x hx => ?_⟩
        · rw [if_neg (by simp)]; omega
        · rcases List.mem_cons.1 hx with rfl | hx
          · exact hne
          · exact hn x hx

theorem b32 : (32 : UInt8).toNat = 32 := rfl
theorem b10 : (10 : UInt8).toNat = 10 := rfl
theorem split_words : ∀ (n : Nat) (l : List UInt8), l.length ≤ n → Lib.splitK [32] 0 (Lib.count l [32]) l = words l
  | n, l, hn => by
    rcases indexByte_split l 32 with ⟨e, hno⟩ | ⟨i, e, a, b, rfl, hl, hno⟩
    · rw [Lib.count_miss (by rw [Lib.index_one]; exact e), Lib.splitK]
      exact (words_none l (fun x hx h => hno x hx (u8_eq h))).symm
    · have hi : Lib.index (a ++ 32 :: b) [32] = i := by rw [Lib.index_one]; exact e
      have hd : (a ++ 32 :: b).drop (i + [(32 : UInt8)].length) = b := by simp [← hl]
      rw [Lib.count_hit (by simp) hi, Nat.add_comm, Lib.splitK, if_neg (by rw [hi]; simp), hi]
      rw [show ((i : Int)).toNat = i from rfl, hd, words_at a b 32 (fun x hx h => hno x hx (u8_eq h)) b32]
      match n, hn with
      | 0, hn => simp at hn
      | n + 1, hn =>
        rw [split_words n b (by simp at hn; omega), Nat.add_zero, ← hl, List.take_left]
theorem split_len : ∀ (n : Nat) (l : List UInt8), l.length ≤ n → (Lib.splitK [32] 0 (Lib.count l [32]) l).length = Lib.count l [32] + 1
  | n, l, hn => by
    rcases indexByte_split l 32 with ⟨e, hno⟩ | ⟨i, e, a, b, rfl, hl, hno⟩
    · rw [Lib.count_miss (by rw [Lib.index_one]; exact e), Lib.splitK]; rfl
    · have hi : Lib.index (a ++ 32 :: b) [32] = i := by rw [Lib.index_one]; exact e
      have hd : (a ++ 32 :: b).drop (i + [(32 : UInt8)].length) = b := by simp [← hl]
      rw [Lib.count_hit (by simp) hi, Nat.add_comm 1, Lib.splitK, if_neg (by rw [hi]; simp), hi]
      rw [show ((i : Int)).toNat = i from rfl, hd]
      match n, hn with
      | 0, hn => simp at hn
      | n + 1, hn => rw [List.length_cons, split_len n b (by simp at hn; omega)]
/-- What cutting at a line feed gives. -/
theorem cut_lines (l : List UInt8) (h : l ≠ []) : (Lib.cut l [10] = (l, [], false) ∧ lines l = [(l, false)]) ∨ ∃ a b, Lib.cut l [10] = (a, b, true) ∧ lines l = (a, true) :: lines b ∧ b.length < l.length := by
  rcases indexByte_split l 10 with ⟨e, hno⟩ | ⟨i, e, a, b, rfl, hl, hno⟩
  · refine Or.inl ⟨?_, lines_none l h (fun x hx h => hno x hx (u8_eq h))⟩
    unfold Lib.cut
    rw [Lib.index_one, e]; simp
  · refine Or.inr ⟨a, b, ?_, lines_at a b 10 (fun x hx h => hno x hx (u8_eq h)) b10, by simp; omega⟩
    unfold Lib.cut
    rw [Lib.index_one, e, if_pos (by omega)]
    simp [← hl]

/-- The value of decimal digits behind a number. -/
def digVal (acc : Nat) : List UInt8 → Option Nat
  | [] => some acc
  | c :: r => if 48 ≤ c.toNat ∧ c.toNat ≤ 57 then digVal (acc * 10 + (c.toNat - 48)) r else none
/-- A document's number: one or two digits, the first of two not 0. -/
def num (l : List UInt8) : Option Nat :=
  match l with
  | [c] => digVal 0 [c]
  | [c, d] => if c.toNat = 48 then none else digVal 0 [c, d]
  | _ => none
def docs : List (List UInt8) → Option (List Int)
  | [] => some []
  | w :: ws => match num w with
    | none => none
    | some n => (docs ws).map ((n : Int) :: ·)
def wReader : List UInt8 := [114, 101, 97, 100, 101, 114]
def wTranslator : List UInt8 := [116, 114, 97, 110, 115, 108, 97, 116, 111, 114]
def wReviewer : List UInt8 := [114, 101, 118, 105, 101, 119, 101, 114]
def wManager : List UInt8 := [109, 97, 110, 97, 103, 101, 114]
def role (w : List UInt8) : Int := if w = wReader then 1 else if w = wTranslator then 2 else if w = wReviewer then 3 else if w = wManager then 4 else 0
/-- The user of a line. -/
def user (l : List UInt8) : Option (ByteArray × Int × List Int) :=
  match words l with
  | nm :: r :: ds => if nm = [] then none else if role r = 0 then none else (docs ds).map fun z => (⟨nm.toArray⟩, role r, z)
  | _ => none

theorem digVal_ge : ∀ (l : List UInt8) (acc n : Nat), digVal acc l = some n → acc * 10 ^ l.length ≤ n
  | [], acc, n, h => by simp [digVal] at h; simp; omega
  | c :: r, acc, n, h => by
    unfold digVal at h
    split at h
    · have := digVal_ge r _ n h
      rw [List.length_cons, Nat.pow_succ]
      have h2 : acc * 10 * 10 ^ r.length ≤ (acc * 10 + (c.toNat - 48)) * 10 ^ r.length := Nat.mul_le_mul_right _ (by omega)
      have h3 : acc * (10 ^ r.length * 10) = acc * 10 * 10 ^ r.length := by rw [Nat.mul_comm (10 ^ r.length) 10, Nat.mul_assoc]
      omega
    · cases h
/-- Three digits or more, the first not 0, are more than 99. -/
theorem digVal_big (c d e : UInt8) (r : List UInt8) (n : Nat) (hc : c.toNat ≠ 48) (h : digVal 0 (c :: d :: e :: r) = some n) : 99 < n := by
  unfold digVal at h
  split at h
  · rename_i hc2
    have := digVal_ge (d :: e :: r) _ n h
    have hp : 1 ≤ 10 ^ r.length := Nat.pow_pos (by omega)
    have h1 : 1 ≤ 0 * 10 + (c.toNat - 48) := by omega
    have h2 : 100 * 10 ^ r.length ≤ (0 * 10 + (c.toNat - 48)) * 10 ^ (d :: e :: r).length := by
      rw [List.length_cons, List.length_cons, Nat.pow_succ, Nat.pow_succ]
      calc 100 * 10 ^ r.length = 1 * (10 ^ r.length * 10 * 10) := by omega
        _ ≤ _ := Nat.mul_le_mul_right _ h1
    omega
  · cases h

theorem dec1 (n : Nat) (h : n < 10) : Lib.decDigits n = [UInt8.ofNat (48 + n)] := by unfold Lib.decDigits; rw [dif_pos h]
theorem dec2 (n : Nat) (h : ¬ n < 10) (h2 : n < 100) : Lib.decDigits n = [UInt8.ofNat (48 + n / 10), UInt8.ofNat (48 + n % 10)] := by
  unfold Lib.decDigits; rw [dif_neg h, dec1 (n / 10) (by omega)]; rfl
theorem of_toNat (c : UInt8) (n : Nat) (h : n = c.toNat) : UInt8.ofNat n = c := by subst h; simp
def isD (c : UInt8) : Prop := 48 ≤ c.toNat ∧ c.toNat ≤ 57
instance (c : UInt8) : Decidable (isD c) := by unfold isD; infer_instance
/-- How a parse of no digits ends. -/
abbrev badN : Lib.NumEnd Nat := Lib.parseMag []
abbrev badI : Lib.NumEnd Int := Lib.atoiAll []
theorem badI_ne (v : Int) : badI ≠ .ok v := fun h => by
  have h2 : Lib.atoiAll [] = .ok v := h
  cases h2
theorem pu1 (c : UInt8) : Lib.parseUint10 0 [c] = if isD c then .ok (c.toNat - 48) else badN := by
  unfold Lib.parseUint10
  by_cases h : isD c
  · rw [if_pos h]
    unfold isD at h
    rw [if_pos h, if_neg (by omega), if_neg (by omega)]; simp [Lib.parseUint10]
  · rw [if_neg h]
    unfold isD at h
    rw [if_neg h]
    try rfl
theorem pu2 (c d : UInt8) : Lib.parseUint10 0 [c, d] = if isD c then (if isD d then .ok ((c.toNat - 48) * 10 + (d.toNat - 48)) else badN) else badN := by
  unfold Lib.parseUint10
  by_cases h : isD c
  · rw [if_pos h]
    unfold isD at h
    rw [if_pos h, if_neg (by omega), if_neg (by omega)]
    unfold Lib.parseUint10
    by_cases h2 : isD d
    · rw [if_pos h2]
      unfold isD at h2
      rw [if_pos h2, if_neg (by omega), if_neg (by omega)]; simp [Lib.parseUint10]
    · rw [if_neg h2]
      unfold isD at h2
      rw [if_neg h2]
      try rfl
  · rw [if_neg h]
    unfold isD at h
    rw [if_neg h]
    try rfl
theorem dv1 (c : UInt8) : digVal 0 [c] = if isD c then some (c.toNat - 48) else none := by
  unfold digVal
  by_cases h : isD c
  · rw [if_pos h]
    unfold isD at h
    rw [if_pos h]; simp [digVal]
  · rw [if_neg h]
    unfold isD at h
    rw [if_neg h]
theorem dv2 (c d : UInt8) : digVal 0 [c, d] = if isD c then (if isD d then some ((c.toNat - 48) * 10 + (d.toNat - 48)) else none) else none := by
  unfold digVal
  by_cases h : isD c
  · rw [if_pos h]
    unfold isD at h
    rw [if_pos h]
    unfold digVal
    by_cases h2 : isD d
    · rw [if_pos h2]
      unfold isD at h2
      rw [if_pos h2]; simp [digVal]
    · rw [if_neg h2]
      unfold isD at h2
      rw [if_neg h2]
  · rw [if_neg h]
    unfold isD at h
    rw [if_neg h]
theorem atoi_of {l : List UInt8} {c : UInt8} {r : List UInt8} (hl : l = c :: r) : Lib.atoiAll l = match Lib.parseMag (if c.toNat = 43 ∨ c.toNat = 45 then r else l) with
    | .ok u => if ¬ c.toNat = 45 ∧ 9223372036854775808 ≤ u then .range else if c.toNat = 45 ∧ 9223372036854775808 < u then .range else .ok (if c.toNat = 45 then -(u : Int) else u)
    | .range => .range
    | _ => badI := by
  subst hl
  unfold Lib.atoiAll
  dsimp only
  cases Lib.parseMag (if c.toNat = 43 ∨ c.toNat = 45 then r else c :: r) <;> rfl
/-- What strconv.Atoi, the length and the decimal form say together of a word of at most two bytes. -/
theorem atoi_num (l : List UInt8) (h2 : l.length ≤ 2) : (∃ n : Nat, num l = some n ∧ n < 100 ∧ Lib.atoiAll l = .ok n ∧ Lib.decDigits n = l) ∨
    (num l = none ∧ (Lib.atoiAll l = badI ∨ ∃ v : Int, Lib.atoiAll l = .ok v ∧ ((v < 0 ∧ -100 < v) ∨ ∃ n : Nat, v = n ∧ n < 100 ∧ Lib.decDigits n ≠ l))) := by
  match l, h2 with
  | [], _ => exact Or.inr ⟨rfl, Or.inl rfl⟩
  | [c], _ =>
    rw [atoi_of rfl]
    by_cases hs : c.toNat = 43 ∨ c.toNat = 45
    · rw [if_pos hs]
      refine Or.inr ⟨?_, Or.inl rfl⟩
      rw [num, dv1, if_neg (by unfold isD; omega)]
    · rw [if_neg hs]
      unfold Lib.parseMag
      rw [if_neg (by simp), pu1]
      by_cases hd : isD c
      · rw [if_pos hd]
        have hd' := hd
        unfold isD at hd'
        refine Or.inl ⟨c.toNat - 48, by rw [num, dv1, if_pos hd], by omega, ?_, ?_⟩
        · simp only
          rw [if_neg (by omega), if_neg (by omega), if_neg (by omega)]
        · rw [dec1 _ (by omega), of_toNat c _ (by omega)]
      · rw [if_neg hd]
        exact Or.inr ⟨by rw [num, dv1, if_neg hd], Or.inl rfl⟩
  | [c, d], _ =>
    rw [atoi_of rfl]
    by_cases hs : c.toNat = 43 ∨ c.toNat = 45
    · rw [if_pos hs]
      have hnum : num [c, d] = none := by rw [num, if_neg (by omega), dv2, if_neg (by unfold isD; omega)]
      refine Or.inr ⟨hnum, ?_⟩
      unfold Lib.parseMag
      rw [if_neg (by simp), pu1]
      by_cases hd : isD d
      · rw [if_pos hd]
        unfold isD at hd
        simp only
        rw [if_neg (by omega), if_neg (by omega)]
        refine Or.inr ⟨_, rfl, ?_⟩
        by_cases h45 : c.toNat = 45
        · rw [if_pos h45]
          by_cases h0 : d.toNat = 48
          · refine Or.inr ⟨0, by omega, by omega, ?_⟩
            rw [dec1 0 (by omega)]; simp
          · exact Or.inl ⟨by omega, by omega⟩
        · rw [if_neg h45]
          refine Or.inr ⟨_, rfl, by omega, ?_⟩
          rw [dec1 _ (by omega)]; simp
      · rw [if_neg hd]
        exact Or.inl rfl
    · rw [if_neg hs]
      unfold Lib.parseMag
      rw [if_neg (by simp), pu2]
      by_cases hc : isD c
      · rw [if_pos hc]
        by_cases hd : isD d
        · rw [if_pos hd]
          have hc' := hc
          have hd' := hd
          unfold isD at hc' hd'
          simp only
          rw [if_neg (by omega), if_neg (by omega), if_neg (by omega)]
          by_cases h0 : c.toNat = 48
          · refine Or.inr ⟨by rw [num, if_pos h0], Or.inr ⟨_, rfl, Or.inr ⟨_, rfl, by omega, ?_⟩⟩⟩
            rw [dec1 _ (by omega)]; simp
          · refine Or.inl ⟨(c.toNat - 48) * 10 + (d.toNat - 48), by rw [num, if_neg h0, dv2, if_pos hc, if_pos hd], by omega, rfl, ?_⟩
            rw [dec2 _ (by omega) (by omega), of_toNat c _ (by omega), of_toNat d _ (by omega)]
        · rw [if_neg hd]
          refine Or.inr ⟨?_, Or.inl rfl⟩
          rw [num, dv2, if_pos hc, if_neg hd]; simp
      · rw [if_neg hc]
        refine Or.inr ⟨?_, Or.inl rfl⟩
        rw [num, dv2, if_neg hc]; simp
/-- What the reference's Number says: the value, if it is at most 99 and has no leading 0. -/
theorem number_num (l : List UInt8) : (l = [] ∨ 10 < l.length ∨ (1 < l.length ∧ (l.headD 0).toNat = 48)) ∧ num l = none ∨
    (l ≠ [] ∧ l.length ≤ 10 ∧ ¬ (1 < l.length ∧ (l.headD 0).toNat = 48)) ∧ ((digVal 0 l = none ∧ num l = none) ∨ ∃ n, digVal 0 l = some n ∧ (99 < n ∧ num l = none ∨ n ≤ 99 ∧ num l = some n)) := by
  match l with
  | [] => exact Or.inl ⟨Or.inl rfl, rfl⟩
  | [c] =>
    refine Or.inr ⟨⟨by simp, by simp, by simp⟩, ?_⟩
    rw [num, dv1]
    by_cases hd : isD c
    · rw [if_pos hd]
      unfold isD at hd
      exact Or.inr ⟨_, rfl, Or.inr ⟨by omega, rfl⟩⟩
    · rw [if_neg hd]; exact Or.inl ⟨rfl, rfl⟩
  | [c, d] =>
    by_cases h0 : c.toNat = 48
    · exact Or.inl ⟨Or.inr (Or.inr ⟨by simp, h0⟩), by rw [num, if_pos h0]⟩
    · refine Or.inr ⟨⟨by simp, by simp, by simp [h0]⟩, ?_⟩
      rw [num, if_neg h0, dv2]
      by_cases hc : isD c
      · rw [if_pos hc]
        by_cases hd : isD d
        · rw [if_pos hd]
          unfold isD at hc hd
          exact Or.inr ⟨_, rfl, Or.inr ⟨by omega, rfl⟩⟩
        · rw [if_neg hd]; exact Or.inl ⟨rfl, rfl⟩
      · rw [if_neg hc]; exact Or.inl ⟨rfl, rfl⟩
  | c :: d :: e :: r =>
    have hnum : num (c :: d :: e :: r) = none := rfl
    by_cases hx : (c :: d :: e :: r) = [] ∨ 10 < (c :: d :: e :: r).length ∨ (1 < (c :: d :: e :: r).length ∧ ((c :: d :: e :: r).headD 0).toNat = 48)
    · exact Or.inl ⟨hx, hnum⟩
    · refine Or.inr ⟨⟨by simp, by omega, fun h => hx (Or.inr (Or.inr h))⟩, ?_⟩
      have h0 : c.toNat ≠ 48 := fun h => hx (Or.inr (Or.inr ⟨by simp, h⟩))
      cases hv : digVal 0 (c :: d :: e :: r) with
      | none => exact Or.inl ⟨rfl, hnum⟩
      | some n => exact Or.inr ⟨n, rfl, Or.inl ⟨digVal_big c d e r n h0 hv, hnum⟩⟩
theorem words_len : ∀ (l : List UInt8), (words l).length ≤ l.length + 1
  | [] => by simp [words]
  | c :: r => by
    have ih := words_len r
    unfold words
    split
    · simp; omega
    · split
      · rename_i w ws h; rw [h] at ih; simp at ih ⊢; omega
      · simp
theorem docs_len : ∀ (ws : List (List UInt8)) (z : List Int), docs ws = some z → z.length = ws.length
  | [], z, h => by simp [docs] at h; subst h; rfl
  | w :: ws, z, h => by
    unfold docs at h
    split at h
    · cases h
    · cases hd : docs ws with
      | none => rw [hd] at h; cases h
      | some y =>
        rw [hd] at h
        simp at h
        subst h
        simp [docs_len ws y hd]
theorem user_size (l : List UInt8) (u : ByteArray × Int × List Int) (h : user l = some u) : u.1.size ≤ l.length ∧ u.2.2.length ≤ l.length := by
  unfold user at h
  split at h
  · rename_i nm r ds hw
    have h1 := words_le l nm (by rw [hw]; exact List.mem_cons_self)
    have h2 := words_len l
    rw [hw] at h2
    split at h
    · cases h
    · split at h
      · cases h
      · cases hd : docs ds with
        | none => rw [hd] at h; cases h
        | some z =>
          rw [hd] at h
          simp at h
          subst h
          have := docs_len ds z hd
          simp at h2 ⊢
          exact ⟨by show nm.toArray.size ≤ _; simpa using h1, by omega⟩
  · cases h
theorem drop_split (l : List UInt8) (a i : Nat) (ha : a ≤ i) (h : i < l.length) : l.drop a = (l.drop a).take (i - a) ++ l[i] :: l.drop (i + 1) := by
  have e : l.drop i = l[i] :: l.drop (i + 1) := List.drop_eq_getElem_cons h
  have h2 : (l.drop a).drop (i - a) = l.drop i := by rw [List.drop_drop]; congr 1; omega
  rw [← e, ← h2, List.take_append_drop]
theorem mem_seg (l : List UInt8) (a n : Nat) (x : UInt8) (h : x ∈ (l.drop a).take n) : ∃ j, ∃ hj : j < l.length, a ≤ j ∧ j < a + n ∧ l[j] = x := by
  obtain ⟨k, hk, e⟩ := List.mem_iff_getElem.1 h
  have hk2 : k < n ∧ a + k < l.length := by simp at hk; omega
  refine ⟨a + k, hk2.2, by omega, by omega, ?_⟩
  rw [← e]; simp
theorem words_seg (l : List UInt8) (a i : Nat) (ha : a ≤ i) (h : i < l.length) (hno : ∀ j (hj : j < l.length), a ≤ j → j < i → l[j].toNat ≠ 32) (hc : l[i].toNat = 32) : words (l.drop a) = (l.drop a).take (i - a) :: words (l.drop (i + 1)) := by
  rw [drop_split l a i ha h, words_at _ _ _ (fun x hx => ?_) hc]
  · rw [← drop_split l a i ha h]
  · obtain ⟨j, hj, h1, h2, rfl⟩ := mem_seg l a (i - a) x hx
    exact hno j hj h1 (by omega)
theorem words_last (l : List UInt8) (a : Nat) (hno : ∀ j (hj : j < l.length), a ≤ j → l[j].toNat ≠ 32) : words (l.drop a) = [l.drop a] := by
  refine words_none _ (fun x hx => ?_)
  obtain ⟨k, hk, e⟩ := List.mem_iff_getElem.1 hx
  have hk2 : a + k < l.length := by simp at hk; omega
  have := hno (a + k) hk2 (by omega)
  rw [← e]; simpa using this
theorem lines_seg (l : List UInt8) (a i : Nat) (ha : a ≤ i) (h : i < l.length) (hno : ∀ j (hj : j < l.length), a ≤ j → j < i → l[j].toNat ≠ 10) (hc : l[i].toNat = 10) : lines (l.drop a) = ((l.drop a).take (i - a), true) :: lines (l.drop (i + 1)) := by
  rw [drop_split l a i ha h, lines_at _ _ _ (fun x hx => ?_) hc]
  · rw [← drop_split l a i ha h]
  · obtain ⟨j, hj, h1, h2, rfl⟩ := mem_seg l a (i - a) x hx
    exact hno j hj h1 (by omega)
theorem lines_last (l : List UInt8) (a : Nat) (hne : a < l.length) (hno : ∀ j (hj : j < l.length), a ≤ j → l[j].toNat ≠ 10) : lines (l.drop a) = [(l.drop a, false)] := by
  refine lines_none _ (fun h => ?_) (fun x hx => ?_)
  · have := congrArg List.length h; simp at this; omega
  · obtain ⟨k, hk, e⟩ := List.mem_iff_getElem.1 hx
    have hk2 : a + k < l.length := by simp at hk; omega
    have := hno (a + k) hk2 (by omega)
    rw [← e]; simpa using this
theorem num_long (l : List UInt8) (h : 2 < l.length) : num l = none := by
  match l, h with
  | [], h => simp at h
  | [c], h => simp at h
  | [c, d], h => simp at h
  | c :: d :: e :: r, _ => rfl
theorem docs_none (w : List UInt8) (ws : List (List UInt8)) (h : num w = none) : docs (w :: ws) = none := by rw [docs, h]
theorem docs_some (w : List UInt8) (ws : List (List UInt8)) (n : Nat) (h : num w = some n) : docs (w :: ws) = (docs ws).map ((n : Int) :: ·) := by rw [docs, h]
end Go.Proofs.YthgmlkeojhfijaaDoor.Ln
