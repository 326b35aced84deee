/- Plain: the parts of a resource file, as a function on lists of bytes. No program in sight. -/
import Derived.Test.YtpahkhmheikebaaGreatDoorResPl
import Derived.Test.YtpahkhmheikebaaGreatDoorSplitPlain
namespace Go.Proofs.YtpahkhmheikebaaGreatDoor.St

def keyC (c : UInt8) : Bool := decide ((97 ≤ c.toNat ∧ c.toNat ≤ 122) ∨ (48 ≤ c.toNat ∧ c.toNat ≤ 57) ∨ c.toNat = 46 ∨ c.toNat = 95 ∨ c.toNat = 45)
def keyN (l : List UInt8) : Nat := (l.takeWhile keyC).length
def lineN (l : List UInt8) : Nat := (l.takeWhile (fun c => decide (c.toNat ≠ 10))).length
/-- How many bytes a raw value has: up to the first line feed that no backslash stands before. -/
def endN : List UInt8 → Nat
  | [] => 0
  | c :: r => if c.toNat = 10 then 0 else if c.toNat = 92 then (match r with
      | [] => 1
      | _ :: r' => 2 + endN r') else 1 + endN r
/-- Is a line blank or a comment? -/
def skipB (l : List UInt8) : Bool := match l.dropWhile blkC with
  | [] => true
  | c :: _ => decide (c.toNat = 10 ∨ c.toNat = 35)
def hasK (ps : List Pt) (k : List UInt8) : Bool := ps.any fun p => p.1 && decide (p.2.1 = k)
/-- The lines from an offset on. dE: the error of a raw value, with its place. -/
def resS (dE : List UInt8 → Nat × Int) (d : List UInt8) : Nat → Nat → PS → Except (Nat × Int) PS
  | 0, _, s => .ok s
  | fuel + 1, a, s =>
    if d.length ≤ a then .ok s else
    if skipB (d.drop a) then resS dE d fuel (a + lineN (d.drop a) + 1) s else
    let n := keyN (d.drop a)
    if n = 0 ∨ 64 < n ∨ ((d.drop (a + n)).head?.map UInt8.toNat) ≠ some 61 then .error (a, 2) else
    if hasK s.1 (cutL d a (a + n)) then .error (a, 5) else
    let to := a + n + 1 + endN (d.drop (a + n + 1))
    if (dE (cutL d (a + n + 1) to)).2 ≠ 0 then .error (a + n + 1 + (dE (cutL d (a + n + 1) to)).1, (dE (cutL d (a + n + 1) to)).2) else
    resS dE d fuel (to + 1) (unitS d s (a + n + 1) to (cutL d a (a + n)))
/-- The parts of a file, the place of an error, and the error. -/
def splitR (dE : List UInt8 → Nat × Int) (d : List UInt8) : List Pt × Nat × Int :=
  if 65536 < d.length then ([], 0, 3) else
  match resS dE d (d.length + 1) 0 ([], 0) with
  | .error (a, e) => ([], a, e)
  | .ok s => (endS d s, 0, 0)
def endR' (d : List UInt8) : Except (Nat × Int) PS → List Pt × Nat × Int
  | .error (a, e) => ([], a, e)
  | .ok s => (endS d s, 0, 0)
theorem splitR_ok {dE : List UInt8 → Nat × Int} {d : List UInt8} (h : ¬ 65536 < d.length) : splitR dE d = endR' d (resS dE d (d.length + 1) 0 ([], 0)) := by
  rw [splitR, if_neg h]
  cases resS dE d (d.length + 1) 0 ([], 0) <;> rfl
section
variable {dE : List UInt8 → Nat × Int} {d : List UInt8} {fuel a : Nat} {s : PS}
theorem resS_end (h : d.length ≤ a) : resS dE d fuel a s = .ok s := by
  cases fuel with
  | zero => rfl
  | succ f => rw [resS, if_pos h]
theorem resS_min (e : Nat) : resS dE d fuel e s = resS dE d fuel (min e d.length) s := by
  by_cases h : e ≤ d.length
  · rw [Nat.min_eq_left h]
  · rw [resS_end (by omega), resS_end (by omega)]
theorem resS_skip (h : ¬ d.length ≤ a) (h1 : skipB (d.drop a) = true) : resS dE d (fuel + 1) a s = resS dE d fuel (min (a + lineN (d.drop a) + 1) d.length) s := by
  rw [resS, if_neg h, if_pos h1, resS_min]
theorem resS_bad (h : ¬ d.length ≤ a) (h1 : skipB (d.drop a) = false) (h2 : keyN (d.drop a) = 0 ∨ 64 < keyN (d.drop a) ∨ ((d.drop (a + keyN (d.drop a))).head?.map UInt8.toNat) ≠ some 61) : resS dE d (fuel + 1) a s = .error (a, 2) := by
  rw [resS, if_neg h, if_neg (by rw [h1]; decide)]; simp only []; rw [if_pos h2]
theorem resS_dup (h : ¬ d.length ≤ a) (h1 : skipB (d.drop a) = false) (h2 : ¬ (keyN (d.drop a) = 0 ∨ 64 < keyN (d.drop a) ∨ ((d.drop (a + keyN (d.drop a))).head?.map UInt8.toNat) ≠ some 61)) (h3 : hasK s.1 (cutL d a (a + keyN (d.drop a))) = true) : resS dE d (fuel + 1) a s = .error (a, 5) := by
  rw [resS, if_neg h, if_neg (by rw [h1]; decide)]; simp only []; rw [if_neg h2, if_pos h3]
theorem resS_err (h : ¬ d.length ≤ a) (h1 : skipB (d.drop a) = false) (h2 : ¬ (keyN (d.drop a) = 0 ∨ 64 < keyN (d.drop a) ∨ ((d.drop (a + keyN (d.drop a))).head?.map UInt8.toNat) ≠ some 61)) (h3 : hasK s.1 (cutL d a (a + keyN (d.drop a))) = false)
    {n b t : Nat} (hn : keyN (d.drop a) = n) (hb : a + n + 1 = b) (ht : b + endN (d.drop b) = t) (h4 : (dE (cutL d b t)).2 ≠ 0) : resS dE d (fuel + 1) a s = .error (b + (dE (cutL d b t)).1, (dE (cutL d b t)).2) := by
  subst hn hb ht
  rw [resS, if_neg h, if_neg (by rw [h1]; decide)]; simp only []; rw [if_neg h2, if_neg (by rw [h3]; decide), if_pos h4]
theorem resS_unit (h : ¬ d.length ≤ a) (h1 : skipB (d.drop a) = false) (h2 : ¬ (keyN (d.drop a) = 0 ∨ 64 < keyN (d.drop a) ∨ ((d.drop (a + keyN (d.drop a))).head?.map UInt8.toNat) ≠ some 61)) (h3 : hasK s.1 (cutL d a (a + keyN (d.drop a))) = false)
    {n b t : Nat} (hn : keyN (d.drop a) = n) (hb : a + n + 1 = b) (ht : b + endN (d.drop b) = t) (h4 : (dE (cutL d b t)).2 = 0) : resS dE d (fuel + 1) a s = resS dE d fuel (min (t + 1) d.length) (unitS d s b t (cutL d a (a + n))) := by
  subst hn hb ht
  rw [resS, if_neg h, if_neg (by rw [h1]; decide)]; simp only []; rw [if_neg h2, if_neg (by rw [h3]; decide), if_neg (by rw [h4]; decide), resS_min]
end
theorem keyN_le (l : List UInt8) : keyN l ≤ l.length := (List.takeWhile_prefix _).length_le
theorem lineN_le (l : List UInt8) : lineN l ≤ l.length := (List.takeWhile_prefix _).length_le
theorem endN_le : ∀ l : List UInt8, endN l ≤ l.length
  | [] => by simp [endN]
  | [c] => by unfold endN; split; simp; split <;> simp [endN]
  | c :: x :: r => by
    unfold endN
    have h1 := endN_le r
    have h2 := endN_le (x :: r)
    split
    · simp
    · split
      · simp; omega
      · simp at h2 ⊢; omega
end Go.Proofs.YtpahkhmheikebaaGreatDoor.St
