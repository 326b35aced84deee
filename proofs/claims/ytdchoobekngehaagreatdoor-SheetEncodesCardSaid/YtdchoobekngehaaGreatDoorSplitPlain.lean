/- Plain law: the parts of a table, as a function on lists of bytes. No program in sight. -/
import Derived.Test.YtdchoobekngehaaGreatDoorDecPlain
namespace Go.Proofs.YtdchoobekngehaaGreatDoor.St

/-- Behind an opening quote: how many bytes up to the closing one, that one too; none: it is not closed. -/
def quotedL : List UInt8 → Option Nat
  | [] => none
  | c :: r => if c.toNat = 34 then (match r with
      | [] => some 1
      | d :: r' => if d.toNat = 34 then (quotedL r').map (· + 2) else some 1) else (quotedL r).map (· + 1)
def bareC (c : UInt8) : Bool := decide (c.toNat ≠ 34 ∧ c.toNat ≠ 44 ∧ c.toNat ≠ 10)
def endB : List UInt8 → Bool
  | [] => true
  | c :: _ => decide (c.toNat = 44 ∨ c.toNat = 10)
/-- A field at the beginning: its length, and whether it is quoted; none: there is none. -/
def fieldL (l : List UInt8) : Option (Nat × Bool) :=
  match l with
  | [] => some (0, false)
  | c :: r => if c.toNat = 34 then (match quotedL r with
      | none => none
      | some n => if endB (r.drop n) then some (n + 1, true) else none)
    else
      let n := (l.takeWhile bareC).length
      if endB (l.drop n) then some (n, false) else none
/-- A part: is it a unit, its key, its bytes. -/
abbrev Pt := Bool × List UInt8 × List UInt8
def cutL (d : List UInt8) (a b : Nat) : List UInt8 := (d.take b).drop a
abbrev PS := List Pt × Nat
def unitS (d : List UInt8) (s : PS) (a b : Nat) (key : List UInt8) : PS := (s.1 ++ [(false, [], cutL d s.2 a), (true, key, cutL d a b)], b)
def endS (d : List UInt8) (s : PS) : List Pt := s.1 ++ [(false, [], d.drop s.2)]

/-- The header's fields from an offset on: how many, how many are the text's, which is; and where it ends. Or an error. -/
def headS (d : List UInt8) : Nat → Nat → Nat → Nat → Nat → Except (Nat × Int) (Nat × Nat × Nat × Nat)
  | 0, at', _, _, _ => .error (at', 2)
  | fuel + 1, at', n, texts, col =>
    match fieldL (d.drop at') with
    | none => .error (at', 2)
    | some (k, _) =>
      let isT : Bool := cutL d at' (at' + k) == [116, 101, 120, 116]
      let texts' := if isT then texts + 1 else texts
      let col' := if isT then n else col
      match d.drop (at' + k) with
      | [] => .ok (at' + k, n + 1, texts', col')
      | c :: _ => if c.toNat = 10 then .ok (at' + k, n + 1, texts', col') else headS d fuel (at' + k + 1) (n + 1) texts' col'
/-- A later record's fields from an offset on. dE: the error of a raw content, with its place. -/
def recS (dE : List UInt8 → Nat × Int) (d : List UInt8) (W C : Nat) (key : List UInt8) : Nat → Nat → Nat → PS → Except (Nat × Int) (Nat × Nat × PS)
  | 0, at', _, _ => .error (at', 2)
  | fuel + 1, at', n, s =>
    match fieldL (d.drop at') with
    | none => .error (at', 2)
    | some (k, q) =>
      if W ≤ n ∨ (n = C ∧ q = false) then .error (at', 2) else
      if n = C ∧ (dE (cutL d (at' + 1) (at' + k - 1))).2 ≠ 0 then .error (at' + 1 + (dE (cutL d (at' + 1) (at' + k - 1))).1, (dE (cutL d (at' + 1) (at' + k - 1))).2) else
      let s' := if n = C then unitS d s (at' + 1) (at' + k - 1) key else s
      match d.drop (at' + k) with
      | [] => .ok (at' + k, n + 1, s')
      | c :: _ => if c.toNat = 10 then .ok (at' + k, n + 1, s') else recS dE d W C key fuel (at' + k + 1) (n + 1) s'
/-- The records behind the header, from an offset on. -/
def recsS (dE : List UInt8 → Nat × Int) (dig : Nat → List UInt8) (d : List UInt8) (W C : Nat) : Nat → Nat → Nat → PS → Except (Nat × Int) PS
  | 0, _, _, s => .ok s
  | fuel + 1, at', r, s =>
    if d.length ≤ at' then .ok s else
    match recS dE d W C (dig r) (d.length + 1) at' 0 s with
    | .error x => .error x
    | .ok (e, n, s') => if n < W then .error (at', 2) else recsS dE dig d W C fuel (e + 1) (r + 1) s'
/-- The parts of a table, the place of an error, and the error. -/
def splitS (dE : List UInt8 → Nat × Int) (dig : Nat → List UInt8) (d : List UInt8) : List Pt × Nat × Int :=
  if 65536 < d.length then ([], 0, 3) else
  match headS d (d.length + 1) 0 0 0 0 with
  | .error (a, e) => ([], a, e)
  | .ok (e, n, texts, col) =>
    if texts = 0 then ([], 0, 6) else
    if 1 < texts then ([], 0, 5) else
    match recsS dE dig d n col (d.length + 1) (e + 1) 1 ([], 0) with
    | .error (a, e) => ([], a, e)
    | .ok s => (endS d s, 0, 0)
end Go.Proofs.YtdchoobekngehaaGreatDoor.St
