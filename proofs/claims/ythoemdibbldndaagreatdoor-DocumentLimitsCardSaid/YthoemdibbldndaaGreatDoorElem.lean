/- Plain: elements of a raw content (slots, sheet), and how reading goes step by step. No function in sight. -/
import Derived.Test.YthoemdibbldndaaGreatDoorNames
import Derived.Test.YthoemdibbldndaaGreatDoorItems
import Derived.Lib.IndexBytes
set_option linter.unusedVariables false
set_option linter.unusedSimpArgs false
namespace Go.Proofs.YthoemdibbldndaaGreatDoor
open Go.RowKit

namespace St
theorem index_take : ∀ l : List UInt8, Lib.indexByte l 125 = if (l.takeWhile (fun c => decide (c.toNat ≠ 125))).length < l.length then ((l.takeWhile (fun c => decide (c.toNat ≠ 125))).length : Int) else -1
  | [] => rfl
  | c :: l => by
    unfold Lib.indexByte
    by_cases h : c.toNat = 125
    · have h2 : c = 125 := by apply UInt8.toNat_inj.1; simpa using h
      subst h2
      simp
    · have h2 : ¬ c = 125 := fun e => h (by rw [e]; rfl)
      have h3 : (c == 125) = false := by simpa using h2
      rw [h3, index_take l, List.takeWhile_cons_of_pos (by simpa using h)]
      simp only [List.length_cons, Bool.false_eq_true, if_false]
      by_cases h4 : (l.takeWhile (fun c => decide (c.toNat ≠ 125))).length < l.length
      · rw [if_pos h4, if_neg (by simp <;> omega), if_pos (by omega)]; try simp
      · rw [if_neg h4, if_pos (by simp), if_neg (by omega)]
theorem sheet_34 {c : UInt8} {r : List UInt8} (h : c.toNat = 34) : sheetL (c :: r) = if ([34, 34] : List UInt8).isPrefixOf (c :: r) then some (1, [c], 2) else none := by
  have h2 : c = 34 := by apply UInt8.toNat_inj.1; simpa using h
  subst h2; rfl
theorem sheet_123 {c : UInt8} {r : List UInt8} (h : c.toNat = 123) : sheetL (c :: r) = if ([123, 123] : List UInt8).isPrefixOf (c :: r) then some (1, [c], 2) else (slotL (c :: r)).map fun x => (5, x.1, x.2) := by
  have h2 : c = 123 := by apply UInt8.toNat_inj.1; simpa using h
  subst h2; rfl
theorem sheet_else {c : UInt8} {r : List UInt8} (h : c.toNat ≠ 34) (h' : c.toNat ≠ 123) : sheetL (c :: r) = some (1, [c], 1) := by
  simp [sheetL, h, h']
theorem pre2_ne {c d : UInt8} {r : List UInt8} (h : c ≠ d) : ([d, d] : List UInt8).isPrefixOf (c :: r) = false := by
  simp [List.isPrefixOf]
  intro e
  exact absurd e.symm h
/-- What a placeholder's end and name say. -/
theorem slot_of {c : UInt8} {r : List UInt8} (h : c.toNat = 123) : (Lib.indexByte (c :: r) 125 = -1 ∧ slotL (c :: r) = none) ∨ ∃ n : Nat, Lib.indexByte (c :: r) 125 = ((n + 1 : Nat) : Int) ∧ n + 1 < (c :: r).length ∧ r.take n = r.takeWhile (fun c => decide (c.toNat ≠ 125)) ∧
    slotL (c :: r) = if isNameL (r.take n) = true then some (r.take n, n + 2) else none := by
  rw [index_take, List.takeWhile_cons_of_pos (by simp; omega)]
  generalize hn : r.takeWhile (fun c => decide (c.toNat ≠ 125)) = t
  have ht : r.take t.length = t := by rw [← hn]; exact (List.prefix_iff_eq_take.1 (List.takeWhile_prefix _)).symm
  have hs : slotL (c :: r) = if decide (t.length + 1 < (c :: r).length) && isNameL t then some (t, t.length + 2) else none := by
    unfold slotL; simp only [List.drop_succ_cons, List.drop_zero, hn]
  rw [hs]
  by_cases h2 : t.length + 1 < (c :: r).length
  · right
    refine ⟨t.length, by rw [List.length_cons, if_pos h2], h2, ht, ?_⟩
    rw [ht, decide_eq_true h2]; rfl
  · left
    refine ⟨by rw [List.length_cons, if_neg h2], ?_⟩
    rw [decide_eq_false h2]; rfl
theorem dec_nil (E : List UInt8 → El) (fuel a d : Nat) (f : List It) (cuts : List Nat) : dec E fuel [] a d f cuts = (f, cuts ++ [d], 0, 0) := by cases fuel <;> simp [dec]
theorem dec_none {E : List UInt8 → El} {l : List UInt8} (fuel a d : Nat) (f : List It) (cuts : List Nat) (h0 : l ≠ []) (h : E l = none) : dec E (fuel + 1) l a d f cuts = ([], [], a, 2) := by
  rw [dec, if_neg h0, h]
theorem dec_full {E : List UInt8 → El} {l : List UInt8} {k : Int} {t : List UInt8} {n : Nat} (fuel a d : Nat) (f : List It) (cuts : List Nat) (h0 : l ≠ []) (h : E l = some (k, t, n)) (hk : k ≠ 0) (hf : 512 < (addI f (k, t, 0)).length ∨ 1024 ≤ cuts.length) : dec E (fuel + 1) l a d f cuts = ([], [], a, 3) := by
  rw [dec, if_neg h0, h]; simp only; rw [if_neg hk, if_pos hf]
theorem dec_step {E : List UInt8 → El} {l : List UInt8} {k : Int} {t : List UInt8} {n : Nat} (fuel a d : Nat) (f : List It) (cuts : List Nat) (h0 : l ≠ []) (h : E l = some (k, t, n)) (hk : k ≠ 0) (hf : ¬ (512 < (addI f (k, t, 0)).length ∨ 1024 ≤ cuts.length)) :
    dec E (fuel + 1) l a d f cuts = dec E fuel (l.drop n) (a + n) (a + n) (addI f (k, t, 0)) (cuts ++ [d]) := by
  rw [dec, if_neg h0, h]; simp only; rw [if_neg hk, if_neg hf]
theorem dec_skip {E : List UInt8 → El} {l : List UInt8} {t : List UInt8} {n : Nat} (fuel a d : Nat) (f : List It) (cuts : List Nat) (h0 : l ≠ []) (h : E l = some (0, t, n)) : dec E (fuel + 1) l a d f cuts = dec E fuel (l.drop n) (a + n) d f cuts := by
  rw [dec, if_neg h0, h]; simp only [if_true]
theorem sheet_len {l : List UInt8} {k : Int} {t : List UInt8} {n : Nat} (h : sheetL l = some (k, t, n)) : (k = 1 ∨ k = 5) ∧ 1 ≤ n ∧ n ≤ l.length := by
  match l, h with
  | c :: r, h =>
    by_cases c34 : c.toNat = 34
    · rw [sheet_34 c34] at h
      split at h
      · rename_i hp
        simp only [Option.some.injEq, Prod.mk.injEq] at h
        obtain ⟨rfl, _, rfl⟩ := h
        refine ⟨.inl rfl, by omega, ?_⟩
        have := (List.isPrefixOf_iff_prefix.1 hp).length_le
        simpa using this
      · cases h
    · by_cases c123 : c.toNat = 123
      · rw [sheet_123 c123] at h
        split at h
        · rename_i hp
          simp only [Option.some.injEq, Prod.mk.injEq] at h
          obtain ⟨rfl, _, rfl⟩ := h
          refine ⟨.inl rfl, by omega, ?_⟩
          have := (List.isPrefixOf_iff_prefix.1 hp).length_le
          simpa using this
        · rcases slot_of (r := r) c123 with ⟨_, hs⟩ | ⟨m, _, hm, _, hs⟩
          · rw [hs] at h; cases h
          · rw [hs] at h
            split at h
            · simp only [Option.map_some, Option.some.injEq, Prod.mk.injEq] at h
              obtain ⟨rfl, _, rfl⟩ := h
              exact ⟨.inr rfl, by omega, by omega⟩
            · cases h
      · rw [sheet_else c34 c123] at h
        simp only [Option.some.injEq, Prod.mk.injEq] at h
        obtain ⟨rfl, _, rfl⟩ := h
        exact ⟨.inl rfl, by omega, by simp⟩
end St
/-- Does t begin s? -/
def preB (t s : ByteArray) : Bool := t.data.toList.isPrefixOf s.data.toList
end Go.Proofs.YthoemdibbldndaaGreatDoor
