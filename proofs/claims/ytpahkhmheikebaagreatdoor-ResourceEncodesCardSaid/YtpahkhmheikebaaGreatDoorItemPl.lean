/- Plain: validity, length, slices and encoding of items. No program in sight. -/
import Derived.Test.YtpahkhmheikebaaGreatDoorDecPlain
namespace Go.Proofs.YtpahkhmheikebaaGreatDoor.St

def nameOf (s : List UInt8) : List UInt8 := s.takeWhile (fun c => decide (c.toNat ≠ 32))
def contentC (c : UInt8) : Bool := decide (32 ≤ c.toNat ∧ c.toNat ≤ 126 ∧ c.toNat ≠ 60 ∧ c.toNat ≠ 62 ∧ c.toNat ≠ 123 ∧ c.toNat ≠ 125)
/-- The content of a tag. -/
def isContentL (s : List UInt8) : Bool :=
  decide (s.length ≤ 64) && (s.all contentC && (isNameL (nameOf s) && ((decide ((nameOf s).length = s.length) || decide ((nameOf s).length + 1 < s.length)) && (s.getLast? != some 47))))
def isTagK (k : Int) : Bool := decide (k = 2 ∨ k = 3 ∨ k = 4)
/-- Does the item y contradict the tag x? -/
def clash (x y : It) : Bool := isTagK y.1 && (decide (y.2.2 = x.2.2) && (decide (x.1 ≠ 3) || (decide (y.1 ≠ 2) || decide (nameOf y.2.1 ≠ x.2.1))))
/-- The error of the item x behind others. -/
def checkL (before : List It) (x : It) : Int :=
  if x.1 = 1 then (if x.2.1 = [] ∨ x.2.2 ≠ 0 ∨ (∃ y, before.getLast? = some y ∧ y.1 = 1) then 1 else 0)
  else if x.1 = 5 then (if isNameL x.2.1 = true ∧ x.2.2 = 0 then 0 else 1)
  else if x.1 = 2 ∨ x.1 = 4 then (if isContentL x.2.1 = true ∧ 1 ≤ x.2.2 ∧ x.2.2 ≤ 999 then (if before.any (clash x) then 7 else 0) else 1)
  else if x.1 = 3 then (if isNameL x.2.1 = true ∧ 1 ≤ x.2.2 ∧ x.2.2 ≤ 999 then (if before.any (clash x) then 7 else 0) else 1)
  else 1
def widthI (x : It) : Nat := if x.1 = 1 then x.2.1.length else 1
def lenL (f : List It) : Nat := (f.map widthI).sum
/-- The first error of items, each behind those before it. -/
def validFrom : List It → List It → Int
  | _, [] => 0
  | b, x :: r => if checkL b x ≠ 0 then checkL b x else validFrom (b ++ [x]) r
def validL (f : List It) : Int := if 512 < f.length ∨ 1024 < lenL f then 3 else validFrom [] f
theorem lenL_snoc (f : List It) (x : It) : lenL (f ++ [x]) = lenL f + widthI x := by simp [lenL]
/-- The items between two positions. -/
def sliceL (a b : Nat) : Nat → List It → List It
  | _, [] => []
  | at', x :: r =>
    (if x.1 = 1 then (if max a at' - at' < min b (at' + x.2.1.length) - at' then [(1, (x.2.1.take (min b (at' + x.2.1.length) - at')).drop (max a at' - at'), x.2.2)] else [])
     else (if a ≤ at' ∧ at' < b then [x] else [])) ++ sliceL a b (at' + widthI x) r
theorem sliceL_snoc (a b : Nat) (f : List It) (x : It) : ∀ at', sliceL a b at' (f ++ [x]) = sliceL a b at' f ++ sliceL a b (at' + lenL f) [x] := by
  induction f with
  | nil => intro at'; simp [sliceL, lenL]
  | cons y f ih =>
    intro at'
    rw [List.cons_append, sliceL, sliceL, ih]
    rw [show at' + lenL (y :: f) = at' + widthI y + lenL f by simp [lenL]; omega]
    simp [List.append_assoc]
def blockL (s : List UInt8) : Bool := decide (s = [112] ∨ s = [104] ∨ s = [108, 105] ∨ s = [116, 100] ∨ s = [116, 105, 116, 108, 101])
/-- The raw bytes of a byte of text. -/
def encB (fmt : Int) (c : UInt8) : List UInt8 :=
  if fmt = 1 then (if c.toNat = 60 then [38, 108, 116, 59] else if c.toNat = 38 then [38, 97, 109, 112, 59] else if c.toNat = 123 then [38, 108, 98, 59] else [c])
  else if fmt = 2 then (if c.toNat = 10 then [92, 110] else if c.toNat = 9 then [92, 116] else if c.toNat = 13 then [92, 114] else if c.toNat = 92 ∨ c.toNat = 123 then [92, c] else [c])
  else (if c.toNat = 34 ∨ c.toNat = 123 then [c, c] else [c])
def encI (fmt : Int) (x : It) : List UInt8 :=
  if x.1 = 1 then x.2.1.flatMap (encB fmt) else if x.1 = 2 then [60] ++ x.2.1 ++ [62] else if x.1 = 3 then [60, 47] ++ x.2.1 ++ [62] else if x.1 = 4 then [60] ++ x.2.1 ++ [47, 62] else if x.1 = 5 then [123] ++ x.2.1 ++ [125] else []
def badTag (fmt : Int) (x : It) : Bool := isTagK x.1 && (decide (fmt ≠ 1) || blockL (nameOf x.2.1))
def encS (fmt : Int) (f : List It) : List UInt8 × Int :=
  if validL f ≠ 0 then ([], validL f) else if f.any (badTag fmt) then ([], 7) else (f.flatMap (encI fmt), 0)
theorem encB_len (fmt : Int) (c : UInt8) : 1 ≤ (encB fmt c).length ∧ (encB fmt c).length ≤ 5 := by
  unfold encB
  repeat' split
  all_goals simp
end Go.Proofs.YtpahkhmheikebaaGreatDoor.St
