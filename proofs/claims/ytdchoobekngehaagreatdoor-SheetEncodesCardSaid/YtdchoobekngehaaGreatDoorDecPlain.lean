/- Plain law: what reading a raw content gives, as a function on lists of bytes: items, offsets, the place of an error and the error. No program in sight. -/
import Derived.Test.YtdchoobekngehaaGreatDoorStrPlain
namespace Go.Proofs.YtdchoobekngehaaGreatDoor.St

/-- An item: kind, text, number. -/
abbrev It := Int × List UInt8 × Int
/-- A list of items with one more: a text joins the text before it, an empty one is left out. -/
def addI (f : List It) (x : It) : List It :=
  if x.1 = 1 then
    if x.2.1 = [] then f else
    match f.getLast? with
    | some y => if y.1 = 1 then f.dropLast ++ [(1, y.2.1 ++ x.2.1, 0)] else f ++ [(1, x.2.1, 0)]
    | none => f ++ [(1, x.2.1, 0)]
  else f ++ [x]
def normL (f : List It) : List It := f.foldl addI []
theorem addI_nil (x : It) : addI [] x = if x.1 = 1 then if x.2.1 = [] then [] else [(1, x.2.1, 0)] else [x] := by
  unfold addI; split
  · rfl
  · rfl
theorem addI_snoc (f : List It) (y x : It) : addI (f ++ [y]) x = if x.1 = 1 then if x.2.1 = [] then f ++ [y] else if y.1 = 1 then f ++ [(1, y.2.1 ++ x.2.1, 0)] else f ++ [y] ++ [(1, x.2.1, 0)] else f ++ [y] ++ [x] := by
  unfold addI
  simp only [List.getLast?_append, List.getLast?_singleton, Option.some_or, List.dropLast_concat]
theorem normL_snoc (f : List It) (x : It) : normL (f ++ [x]) = addI (normL f) x := by unfold normL; rw [List.foldl_append]; rfl
theorem snoc_cases {α : Type} (l : List α) : l = [] ∨ ∃ a b, l = a ++ [b] := by
  rcases List.eq_nil_or_concat l with h | ⟨a, b, h⟩
  · exact .inl h
  · exact .inr ⟨a, b, by simpa using h⟩
theorem addI_len (f : List It) (x : It) : (addI f x).length ≤ f.length + 1 ∧ f.length ≤ (addI f x).length := by
  rcases snoc_cases f with rfl | ⟨a, b, rfl⟩
  · rw [addI_nil]; repeat' split
    all_goals simp
  · rw [addI_snoc]; repeat' split
    all_goals simp
theorem normL_len_n : ∀ (n : Nat) (f : List It), f.length = n → (normL f).length ≤ n
  | 0, f, h => by rw [List.eq_nil_of_length_eq_zero h]; simp [normL]
  | n + 1, f, h => by
    rcases snoc_cases f with rfl | ⟨a, b, rfl⟩
    · simp at h
    · rw [normL_snoc]
      have h1 := (addI_len (normL a) b).1
      have h2 := normL_len_n n a (by simpa using h)
      omega
theorem normL_len (f : List It) : (normL f).length ≤ f.length := normL_len_n _ f rfl
/-- A list that joins to itself. -/
def Nm (f : List It) : Prop := normL f = f
theorem nm_nil : Nm [] := rfl
theorem nm_left {f : List It} {y : It} (h : Nm (f ++ [y])) : Nm f ∧ (y.1 = 1 → y.2.1 ≠ [] ∧ y.2.2 = 0 ∧ ∀ z, f.getLast? = some z → z.1 ≠ 1) := by
  unfold Nm at h
  rw [normL_snoc] at h
  have hl := normL_len f
  rcases snoc_cases (normL f) with h0 | ⟨a, b, h0⟩
  · rw [h0, addI_nil] at h
    by_cases h1 : y.1 = 1
    · rw [if_pos h1] at h
      by_cases h2 : y.2.1 = []
      · rw [if_pos h2] at h; simp at h
      · rw [if_neg h2] at h
        have : f = [] := by
          have h3 := congrArg List.length h; simp at h3; exact h3
        subst this
        simp only [List.nil_append, List.cons.injEq, and_true] at h
        exact ⟨rfl, fun _ => ⟨h2, by rw [← h], fun z hz => by simp at hz⟩⟩
    · rw [if_neg h1] at h
      have : f = [] := by
        have h3 := congrArg List.length h; simp at h3; exact h3
      subst this
      exact ⟨rfl, fun h2 => absurd h2 h1⟩
  · rw [h0, addI_snoc] at h
    rw [h0] at hl
    simp at hl
    by_cases h1 : y.1 = 1
    · rw [if_pos h1] at h
      by_cases h2 : y.2.1 = []
      · rw [if_pos h2] at h
        have h3 := congrArg List.length h; simp at h3; omega
      · rw [if_neg h2] at h
        by_cases h4 : b.1 = 1
        · rw [if_pos h4] at h
          have h3 := congrArg List.length h; simp at h3; omega
        · rw [if_neg h4] at h
          have h5 := List.append_inj' h rfl
          have h6 : f = a ++ [b] := h5.1.symm
          simp only [List.cons.injEq, and_true] at h5
          refine ⟨by unfold Nm; rw [h0, h6], fun _ => ⟨h2, by rw [← h5.2], fun z hz => ?_⟩⟩
          rw [h6] at hz
          simp at hz
          rw [← hz]; exact h4
    · rw [if_neg h1] at h
      have h5 := List.append_inj' h rfl
      exact ⟨by unfold Nm; rw [h0, h5.1], fun h2 => absurd h2 h1⟩
theorem nm_add {f : List It} (h : Nm f) (x : It) : Nm (addI f x) := by
  have hn := h
  unfold Nm at h
  rcases snoc_cases f with rfl | ⟨a, b, rfl⟩
  · rw [addI_nil]
    by_cases h1 : x.1 = 1
    · rw [if_pos h1]
      by_cases h2 : x.2.1 = []
      · rw [if_pos h2]; rfl
      · rw [if_neg h2]; unfold Nm normL; simp [addI, h2]
    · rw [if_neg h1]; unfold Nm normL; simp [addI, h1]
  · rw [addI_snoc]
    by_cases h1 : x.1 = 1
    · rw [if_pos h1]
      by_cases h2 : x.2.1 = []
      · rw [if_pos h2]; exact hn
      · rw [if_neg h2]
        by_cases h4 : b.1 = 1
        · rw [if_pos h4]
          obtain ⟨ha, hb⟩ := nm_left hn
          obtain ⟨hb1, _, hb3⟩ := hb h4
          unfold Nm at ha ⊢
          rw [normL_snoc, ha]
          rcases snoc_cases a with rfl | ⟨a', b', rfl⟩
          · rw [addI_nil]; simp [hb1]
          · rw [addI_snoc]
            have := hb3 b' (by simp)
            simp [this, hb1]
        · rw [if_neg h4]; unfold Nm; rw [normL_snoc, h, addI_snoc]; simp [h4, h2]
    · rw [if_neg h1]; unfold Nm; rw [normL_snoc, h, addI_snoc]; simp [h1]

/-- What an element is: kind (0: nothing), text, length; none: an error. -/
abbrev El := Option (Int × List UInt8 × Nat)
/-- Reading a raw content: items, offsets, the place of an error, the error. -/
def dec (E : List UInt8 → El) : Nat → List UInt8 → Nat → Nat → List It → List Nat → List It × List Nat × Nat × Int
  | 0, _, _, done, f, cuts => (f, cuts ++ [done], 0, 0)
  | fuel + 1, l, at', done, f, cuts =>
    if l = [] then (f, cuts ++ [done], 0, 0) else
    match E l with
    | none => ([], [], at', 2)
    | some (k, t, n) =>
      if k = 0 then dec E fuel (l.drop n) (at' + n) done f cuts else
      if 512 < (addI f (k, t, 0)).length ∨ 1024 ≤ cuts.length then ([], [], at', 3) else
      dec E fuel (l.drop n) (at' + n) (at' + n) (addI f (k, t, 0)) (cuts ++ [done])
/-- The pending text as items. -/
def txt (t : List UInt8) : List It := if t = [] then [] else [(1, t, 0)]
/-- No text stands at the end. -/
def NoTxt (f : List It) : Prop := ∀ z, f.getLast? = some z → z.1 ≠ 1
theorem add_byte {f : List It} {t : List UInt8} (h : NoTxt f) (c : UInt8) : addI (f ++ txt t) (1, [c], 0) = f ++ txt (t ++ [c]) := by
  unfold txt
  by_cases ht : t = []
  · subst ht
    simp only [if_true, List.append_nil, List.nil_append]
    rw [if_neg (by simp)]
    rcases snoc_cases f with rfl | ⟨a, b, rfl⟩
    · rw [addI_nil]; rfl
    · rw [addI_snoc]
      have := h b (by simp)
      simp [this]
  · rw [if_neg ht, if_neg (by simp), addI_snoc]; simp
theorem add_item {f : List It} (k : Int) (t : List UInt8) (h : k ≠ 1) : addI f (k, t, 0) = f ++ [(k, t, 0)] := by unfold addI; rw [if_neg h]
theorem noTxt_snoc (f : List It) (k : Int) (t : List UInt8) (i : Int) (h : k ≠ 1) : NoTxt (f ++ [(k, t, i)]) := by
  intro z hz; simp at hz; rw [← hz]; exact h
theorem noTxt_nil : NoTxt [] := by intro z hz; simp at hz
theorem txt_len (t : List UInt8) : (txt t).length = if t = [] then 0 else 1 := by unfold txt; split <;> simp
/-- Would one more element exceed a limit? -/
def fullB (ni nt nc : Nat) (text : Bool) : Bool := decide (512 < ni + (if 0 < nt then 1 else 0) + (if text = false ∨ nt = 0 then 1 else 0) ∨ 1024 < nc + 1)
theorem full_byte {f : List It} {t : List UInt8} (h : NoTxt f) (c : UInt8) (nc : Nat) : (512 < (addI (f ++ txt t) (1, [c], 0)).length ∨ 1024 ≤ nc) ↔ fullB f.length t.length nc true = true := by
  rw [add_byte h, List.length_append, txt_len, if_neg (by simp)]
  unfold fullB
  rw [decide_eq_true_iff]
  rcases Nat.eq_zero_or_pos t.length with h0 | h0
  · rw [if_neg (by omega), if_pos (by simp [h0])]; omega
  · rw [if_pos h0, if_neg (by simp; intro e; simp [e] at h0)]; omega
theorem full_item {f : List It} {t : List UInt8} (k : Int) (s : List UInt8) (nc : Nat) (hk : k ≠ 1) : (512 < (addI (f ++ txt t) (k, s, 0)).length ∨ 1024 ≤ nc) ↔ fullB f.length t.length nc false = true := by
  rw [add_item _ _ hk, List.length_append, List.length_append, txt_len]
  unfold fullB
  rw [decide_eq_true_iff]
  rcases Nat.eq_zero_or_pos t.length with h0 | h0
  · rw [if_pos (List.eq_nil_of_length_eq_zero h0), if_neg (by omega), if_pos (by simp)]; simp; omega
  · rw [if_neg (by intro e; simp [e] at h0), if_pos h0, if_pos (by simp)]; simp; omega
end Go.Proofs.YtdchoobekngehaaGreatDoor.St
