/- Plain: names, and small facts on bytes of strings. No program in sight. -/
namespace Go.Proofs.YtdchoobekngehaaGreatDoor.St

def lowC (c : UInt8) : Bool := decide (97 ≤ c.toNat ∧ c.toNat ≤ 122)
def nameC (c : UInt8) : Bool := decide ((97 ≤ c.toNat ∧ c.toNat ≤ 122) ∨ (48 ≤ c.toNat ∧ c.toNat ≤ 57) ∨ c.toNat = 45)
/-- A name: 1 to 24 bytes. -/
def isNameL : List UInt8 → Bool
  | [] => false
  | c :: r => decide (r.length ≤ 23) && (lowC c && r.all nameC)

theorem drop_at (s : ByteArray) (k : Nat) (h : k < s.size) : s.data.toList.drop k = s[k] :: s.data.toList.drop (k + 1) := by
  rw [List.drop_eq_getElem_cons (by simpa using h)]; rfl
theorem list_zero (s : ByteArray) (h : 0 < s.size) : s.data.toList = s[0] :: s.data.toList.drop 1 := by
  have := drop_at s 0 h; simpa using this
theorem len_list (s : ByteArray) : s.data.toList.length = s.size := by simp
theorem drop_all (s : ByteArray) (k : Nat) (h : s.size ≤ k) : s.data.toList.drop k = [] := List.drop_of_length_le (by simpa using h)
theorem name_empty (s : ByteArray) (h : s.size = 0) : isNameL s.data.toList = false := by
  have : s.data.toList = [] := List.eq_nil_of_length_eq_zero (by simpa using h)
  rw [this]; rfl
theorem name_long (s : ByteArray) (h : 24 < s.size) : isNameL s.data.toList = false := by
  rw [list_zero s (by omega), isNameL]
  have : ¬ (s.data.toList.drop 1).length ≤ 23 := by simp; omega
  rw [decide_eq_false this]; rfl
theorem name_head (s : ByteArray) (h : 0 < s.size) (hc : lowC s[0] = false) : isNameL s.data.toList = false := by
  rw [list_zero s h, isNameL, hc]; simp
theorem name_rest (s : ByteArray) (h : 0 < s.size) (h24 : s.size ≤ 24) (hc : lowC s[0] = true) : isNameL s.data.toList = (s.data.toList.drop 1).all nameC := by
  have e : decide ((s.data.toList.drop 1).length ≤ 23) = true := decide_eq_true (by simp; omega)
  rw [list_zero s h]
  show (decide ((s.data.toList.drop 1).length ≤ 23) && (lowC s[0] && (s.data.toList.drop 1).all nameC)) = _
  rw [e, hc]; simp
theorem all_step (s : ByteArray) (k : Nat) (h : k < s.size) : (s.data.toList.drop k).all nameC = (nameC s[k] && (s.data.toList.drop (k + 1)).all nameC) := by
  rw [drop_at s k h, List.all_cons]
theorem pre_take : ∀ (m l : List UInt8), (l.take m.length == m) = m.isPrefixOf l
  | [], l => by simp
  | c :: m, [] => by simp [List.isPrefixOf]
  | c :: m, d :: l => by
    rw [List.length_cons, List.take_succ_cons, List.isPrefixOf, ← pre_take m l]
    have e : (d == c) = (c == d) := by rw [Bool.eq_iff_iff, beq_iff_eq, beq_iff_eq]; exact eq_comm
    show (d == c && (l.take m.length == m)) = (c == d && (l.take m.length == m))
    rw [e]
theorem pre_long (m l : List UInt8) (h : l.length < m.length) : m.isPrefixOf l = false := by
  rw [← pre_take, beq_eq_false_iff_ne]
  intro e
  have := congrArg List.length e
  simp at this
  omega

/-- A placeholder at the beginning: its name and its length. -/
def slotL (l : List UInt8) : Option (List UInt8 × Nat) :=
  let n := (l.drop 1).takeWhile (fun c => decide (c.toNat ≠ 125))
  if decide (n.length + 1 < l.length) && isNameL n then some (n, n.length + 2) else none
/-- An element of a sheet: kind, text, length. -/
def sheetL : List UInt8 → Option (Int × List UInt8 × Nat)
  | [] => none
  | c :: r =>
    if c.toNat = 34 then (if ([34, 34] : List UInt8).isPrefixOf (c :: r) then some (1, [34], 2) else none)
    else if c.toNat = 123 then (if ([123, 123] : List UInt8).isPrefixOf (c :: r) then some (1, [123], 2) else (slotL (c :: r)).map fun x => (5, x.1, x.2))
    else some (1, [c], 1)
end Go.Proofs.YtdchoobekngehaaGreatDoor.St
