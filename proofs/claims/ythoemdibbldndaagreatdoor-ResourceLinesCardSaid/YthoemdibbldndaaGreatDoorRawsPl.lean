/- Plain: a slice of one position, and its encoding. No program in sight. -/
import Derived.Test.YthoemdibbldndaaGreatDoorMakeLong
import Derived.Test.YthoemdibbldndaaGreatDoorBas
set_option linter.unusedVariables false
set_option linter.unusedSimpArgs false
namespace Go.Proofs.YthoemdibbldndaaGreatDoor.St

theorem pos_len (f : List It) : (posI f).length = lenL f := by
  induction f with
  | nil => rfl
  | cons x f ih =>
    have e : posI (x :: f) = (if x.1 = 1 then x.2.1.map (fun c => ((1 : Int), [c], (0 : Int))) else [x]) ++ posI f := by simp [posI]
    rw [e, List.length_append, ih]
    simp only [lenL, List.map_cons, List.sum_cons]
    unfold widthI
    split <;> simp
theorem slice_out (i : Nat) : ∀ (f : List It) (at' : Nat), (i < at' ∨ at' + lenL f ≤ i) → sliceL i (i + 1) at' f = []
  | [], _, _ => rfl
  | x :: f, at', h => by
    have hl : lenL (x :: f) = widthI x + lenL f := by simp [lenL]
    rw [hl] at h
    rw [sliceL, slice_out i f (at' + widthI x) (by omega), List.append_nil]
    unfold widthI at h
    split
    · rename_i h1
      rw [if_pos h1] at h
      rw [if_neg (by omega)]
    · rename_i h1
      rw [if_neg h1] at h
      rw [if_neg (by omega)]
theorem slice_one (i : Nat) : ∀ (f : List It) (at' : Nat), (∀ x ∈ f, x.1 = 1 → x.2.2 = 0) → at' ≤ i → (h : i - at' < (posI f).length) → sliceL i (i + 1) at' f = [(posI f)[i - at']]
  | [], _, _, _, h => by simp [posI] at h
  | x :: f, at', h0, hi, h => by
    have e : posI (x :: f) = (if x.1 = 1 then x.2.1.map (fun c => ((1 : Int), [c], (0 : Int))) else [x]) ++ posI f := by simp [posI]
    have hw : (if x.1 = 1 then x.2.1.map (fun c => ((1 : Int), [c], (0 : Int))) else [x]).length = widthI x := by unfold widthI; split <;> simp
    rw [sliceL]
    by_cases hlt : i - at' < widthI x
    · rw [slice_out i f (at' + widthI x) (by omega), List.append_nil]
      have hg : (posI (x :: f))[i - at']? = (if x.1 = 1 then x.2.1.map (fun c => ((1 : Int), [c], (0 : Int))) else [x])[i - at']? := by rw [e, List.getElem?_append_left (by omega)]
      have hg2 : (posI (x :: f))[i - at']? = some (posI (x :: f))[i - at'] := List.getElem?_eq_getElem h
      rw [hg2] at hg
      unfold widthI at hlt
      split at hg
      · rename_i h1
        rw [if_pos h1] at hlt ⊢
        rw [if_pos (by omega), show max i at' - at' = i - at' by omega, show min (i + 1) (at' + x.2.1.length) - at' = i - at' + 1 by omega]
        have hx := h0 x (by simp) h1
        rw [hx, List.take_add_one, List.getElem?_eq_getElem hlt, List.drop_append_of_le_length (by simp; omega), List.drop_of_length_le (by simp; omega)]
        rw [List.getElem?_map, List.getElem?_eq_getElem hlt] at hg
        simp only [Option.map_some, Option.some.injEq] at hg
        rw [hg]; rfl
      · rename_i h1
        rw [if_neg h1] at hlt ⊢
        rw [if_pos (by omega)]
        have hz : i - at' = 0 := by omega
        simp only [hz] at hg ⊢
        simp at hg
        rw [hg]
    · have hlen := h
      rw [e, List.length_append, hw] at hlen
      have ih := slice_one i f (at' + widthI x) (fun y hy => h0 y (by simp [hy])) (by omega) (by omega)
      have hg : (posI (x :: f))[i - at']? = (posI f)[i - (at' + widthI x)]? := by rw [e, List.getElem?_append_right (by omega), hw]; congr 1; omega
      have hg2 : (posI (x :: f))[i - at']? = some (posI (x :: f))[i - at'] := List.getElem?_eq_getElem h
      have hg3 : (posI f)[i - (at' + widthI x)]? = some ((posI f)[i - (at' + widthI x)]'(by omega)) := List.getElem?_eq_getElem (by omega)
      rw [hg2, hg3] at hg
      rw [ih, Option.some.inj hg]
      have hn : (if x.1 = 1 then (if max i at' - at' < min (i + 1) (at' + x.2.1.length) - at' then [((1 : Int), (x.2.1.take (min (i + 1) (at' + x.2.1.length) - at')).drop (max i at' - at'), x.2.2)] else []) else (if i ≤ at' ∧ at' < i + 1 then [x] else [])) = [] := by
        unfold widthI at hlt
        split
        · rename_i h1
          rw [if_pos h1] at hlt
          rw [if_neg (by omega)]
        · rename_i h1
          rw [if_neg h1] at hlt
          rw [if_neg (by omega)]
      rw [hn]; rfl
/-- What stands at a position. -/
def Pos1 (p : It) : Prop := (∃ c, p = (1, [c], 0)) ∨ (∃ t, p = (5, t, 0) ∧ isNameL t = true)
theorem name_len {t : List UInt8} (h : isNameL t = true) : t.length ≤ 24 ∧ t ≠ [] := by
  cases t with
  | nil => cases h
  | cons c r =>
    rw [isNameL] at h
    simp only [Bool.and_eq_true, decide_eq_true_eq] at h
    exact ⟨by simp; omega, by simp⟩
theorem pos_enc {p : It} (h : Pos1 p) (fmt : Int) : encS fmt [p] = (encI fmt p, 0) := by
  rcases h with ⟨c, rfl⟩ | ⟨t, rfl, ht⟩
  · simp [encS, validL, lenL, widthI, validFrom, checkL, badTag, isTagK]
  · simp [encS, validL, lenL, widthI, validFrom, checkL, badTag, isTagK, ht]
theorem pos_tot {p : It} (h : Pos1 p) : p.2.1.length ≤ 24 := by
  rcases h with ⟨c, rfl⟩ | ⟨t, rfl, ht⟩
  · simp
  · exact (name_len ht).1
theorem encI_len {p : It} (h : Pos1 p) (fmt : Int) : (encI fmt p).length ≤ 26 ∧ encI fmt p ≠ [] := by
  rcases h with ⟨c, rfl⟩ | ⟨t, rfl, ht⟩
  · have := encB_len fmt c
    have e : encI fmt (1, [c], 0) = encB fmt c := by simp [encI]
    rw [e]
    exact ⟨by omega, fun e => by rw [e] at this; simp at this⟩
  · have := (name_len ht).1
    have e : encI fmt (5, t, 0) = [123] ++ t ++ [125] := by simp [encI]
    rw [e]; exact ⟨by simp; omega, by simp⟩
theorem form_len {fmt : Int} {p : It} {b : List UInt8} (h : Pos1 p) (hf : formB fmt p b) : b.length ≤ 40 := by
  rcases hf with rfl | ⟨_, _, ⟨_, rfl⟩ | ⟨_, rfl⟩⟩ | ⟨_, ⟨_, _, rfl⟩ | ⟨r, _, rfl⟩⟩
  · have := (encI_len h fmt).1; omega
  · simp
  · simp
  · simp
  · have h1 := (encI_len h 2).1
    have h2 := shield_len (encI 2 p)
    have h3 : (blankL r).length ≤ 2 := by unfold blankL; split; simp; split <;> simp
    simp; omega
end Go.Proofs.YthoemdibbldndaaGreatDoor.St
namespace Go.Proofs.YthoemdibbldndaaGreatDoor
theorem good_pos {f : List St.It} (h : GoodF f) : ∀ p ∈ St.posI f, St.Pos1 p := by
  intro p hp
  unfold St.posI at hp
  obtain ⟨x, hx, hp⟩ := List.mem_flatMap.1 hp
  have hg := h.2 x hx
  split at hp
  · obtain ⟨c, _, rfl⟩ := List.mem_map.1 hp
    exact .inl ⟨c, rfl⟩
  · rename_i h1
    simp at hp; subst hp
    obtain ⟨h0, h2⟩ := hg
    obtain ⟨k, t, i⟩ := p
    simp only at h0 h1 h2
    rcases h2 with h2 | ⟨h2, h3⟩
    · exact absurd h2 h1
    · subst h0 h2; exact .inr ⟨t, rfl, h3⟩
theorem good_zero {f : List St.It} (h : GoodF f) : ∀ x ∈ f, x.1 = 1 → x.2.2 = 0 := fun x hx _ => (h.2 x hx).1
end Go.Proofs.YthoemdibbldndaaGreatDoor
