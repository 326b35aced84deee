/- Plain: the elements of a resource's raw value, and the pieces that the maker writes. No program in sight. -/
import Derived.Test.YtpahkhmheikebaaGreatDoorElem
import Derived.Test.YtpahkhmheikebaaGreatDoorPieces
import Derived.Test.YtpahkhmheikebaaGreatDoorItemPl
namespace Go.Proofs.YtpahkhmheikebaaGreatDoor.St

def escL (d : UInt8) : Option UInt8 :=
  if d.toNat = 110 then some 10 else if d.toNat = 116 then some 9 else if d.toNat = 115 then some 32 else if d.toNat = 114 then some 13 else if d.toNat = 92 then some 92 else if d.toNat = 123 then some 123 else none
def blkC (c : UInt8) : Bool := decide (c.toNat = 32 ∨ c.toNat = 9)
def blkN (l : List UInt8) : Nat := (l.takeWhile blkC).length
/-- What stands behind a backslash. -/
def escN : List UInt8 → El
  | [] => none
  | d :: r' => if d.toNat = 10 then some (0, [], 2 + blkN r') else (escL d).map fun e => (1, [e], 2)
/-- An element of a resource: kind, text, length; kind 0: a continuation. -/
def resL : List UInt8 → El
  | [] => none
  | c :: r =>
    if c.toNat = 10 then none else
    if c.toNat = 92 then escN r else
    if c.toNat = 123 then (slotL (c :: r)).map fun x => (5, x.1, x.2) else some (1, [c], 1)
theorem res_10 {c : UInt8} {r : List UInt8} (h : c.toNat = 10) : resL (c :: r) = none := by rw [resL, if_pos h]
theorem res_end {c : UInt8} (h : c.toNat = 92) : resL [c] = none := by rw [resL, if_neg (by omega), if_pos h]; rfl
theorem res_cont {c d : UInt8} {r : List UInt8} (h : c.toNat = 92) (h2 : d.toNat = 10) : resL (c :: d :: r) = some (0, [], 2 + blkN r) := by rw [resL, if_neg (by omega), if_pos h, escN, if_pos h2]
theorem res_esc {c d : UInt8} {r : List UInt8} (h : c.toNat = 92) (h2 : d.toNat ≠ 10) : resL (c :: d :: r) = (escL d).map fun e => (1, [e], 2) := by rw [resL, if_neg (by omega), if_pos h, escN, if_neg h2]
theorem res_123 {c : UInt8} {r : List UInt8} (h : c.toNat = 123) : resL (c :: r) = (slotL (c :: r)).map fun x => (5, x.1, x.2) := by rw [resL, if_neg (by omega), if_neg (by omega), if_pos h]
theorem res_else {c : UInt8} {r : List UInt8} (h : c.toNat ≠ 10) (h2 : c.toNat ≠ 92) (h3 : c.toNat ≠ 123) : resL (c :: r) = some (1, [c], 1) := by rw [resL, if_neg h, if_neg h2, if_neg h3]
theorem blkN_le (l : List UInt8) : blkN l ≤ l.length := (List.takeWhile_prefix _).length_le
theorem slot_ok {c : UInt8} {r : List UInt8} {k : Int} {t : List UInt8} {n : Nat} (hc : c.toNat = 123) (h : (slotL (c :: r)).map (fun x => ((5 : Int), x.1, x.2)) = some (k, t, n)) : k = 5 ∧ 1 ≤ n ∧ n ≤ (c :: r).length ∧ t.length ≤ n := by
  rcases slot_of (r := r) hc with ⟨_, hs⟩ | ⟨m, _, hm, _, hs⟩
  · rw [hs] at h; cases h
  · rw [hs] at h
    split at h
    · simp only [Option.map_some, Option.some.injEq, Prod.mk.injEq] at h
      obtain ⟨rfl, rfl, rfl⟩ := h
      exact ⟨rfl, by omega, by omega, by simp; omega⟩
    · cases h
theorem res_len {l : List UInt8} {k : Int} {t : List UInt8} {n : Nat} (h : resL l = some (k, t, n)) : (k = 0 ∨ k = 1 ∨ k = 5) ∧ 1 ≤ n ∧ n ≤ l.length ∧ t.length ≤ n := by
  match l, h with
  | c :: r, h =>
    by_cases h10 : c.toNat = 10
    · rw [res_10 h10] at h; cases h
    by_cases h92 : c.toNat = 92
    · match r, h with
      | [], h => rw [res_end h92] at h; cases h
      | d :: r', h =>
        by_cases hd : d.toNat = 10
        · rw [res_cont h92 hd] at h
          simp only [Option.some.injEq, Prod.mk.injEq] at h
          obtain ⟨rfl, rfl, rfl⟩ := h
          have := blkN_le r'
          exact ⟨.inl rfl, by omega, by simp; omega, by simp⟩
        · rw [res_esc h92 hd] at h
          cases he : escL d with
          | none => rw [he] at h; cases h
          | some e =>
            rw [he] at h
            simp only [Option.map_some, Option.some.injEq, Prod.mk.injEq] at h
            obtain ⟨rfl, rfl, rfl⟩ := h
            exact ⟨.inr (.inl rfl), by omega, by simp, by simp⟩
    by_cases h123 : c.toNat = 123
    · rw [res_123 h123] at h
      obtain ⟨rfl, h1, h2, h3⟩ := slot_ok h123 h
      exact ⟨.inr (.inr rfl), h1, h2, h3⟩
    · rw [res_else h10 h92 h123] at h
      simp only [Option.some.injEq, Prod.mk.injEq] at h
      obtain ⟨rfl, rfl, rfl⟩ := h
      exact ⟨.inr (.inl rfl), by omega, by simp, by simp⟩
theorem res_elen : ElLen resL := fun _ _ _ _ h => ⟨(res_len h).2.1, (res_len h).2.2.1⟩
end Go.Proofs.YtpahkhmheikebaaGreatDoor.St
