/- Plain: the numbers of tags, and renumbering; what reading has numbered keeps its numbers. No program in sight. -/
import Derived.Test.YtiifjfbfkhhpeaaGreatDoorBas
set_option linter.unusedVariables false
set_option linter.unusedSimpArgs false
namespace Go.Proofs.YtiifjfbfkhhpeaaGreatDoor.St

/-- The numbers of tags, each once, with one more item's. -/
def addN (l : List Int) (x : It) : List Int := if isTagK x.1 = true ∧ x.2.2 ∉ l then l ++ [x.2.2] else l
def numL (f : List It) : List Int := f.foldl addN []
/-- An item with the number of its place. -/
def renI (l : List Int) (x : It) : It := if isTagK x.1 then (x.1, x.2.1, (l.idxOf x.2.2 : Int) + 1) else x
def renumL (f : List It) : List It := normL (f.map (renI (numL f)))
def upL (c : Nat) : List Int := (List.range c).map fun (i : Nat) => (i : Int) + 1
theorem upL_suc (c : Nat) : upL (c + 1) = upL c ++ [(c : Int) + 1] := by unfold upL; rw [List.range_succ, List.map_append]; rfl
theorem upL_len (c : Nat) : (upL c).length = c := by simp [upL]
theorem mem_upL {c : Nat} {i : Int} : i ∈ upL c ↔ 1 ≤ i ∧ i ≤ c := by
  unfold upL
  rw [List.mem_map]
  constructor
  · rintro ⟨j, hj, rfl⟩
    have := List.mem_range.1 hj
    omega
  · rintro ⟨h1, h2⟩
    exact ⟨i.toNat - 1, List.mem_range.2 (by omega), by omega⟩
theorem idx_upL : ∀ (c : Nat) (i : Int), 1 ≤ i → i ≤ c → (upL c).idxOf i = i.toNat - 1
  | 0, i, h1, h2 => by omega
  | c + 1, i, h1, h2 => by
    rw [upL_suc]
    by_cases h : i ≤ c
    · rw [List.idxOf_append, if_pos (mem_upL.2 ⟨h1, h⟩)]; exact idx_upL c i h1 h
    · have hi : i = (c : Int) + 1 := by omega
      subst hi
      rw [List.idxOf_append, if_neg (fun e => by have := (mem_upL.1 e).2; omega), upL_len]
      simp <;> omega
theorem num_bytes (t : List UInt8) (l : List Int) : (t.map (fun c => ((1 : Int), [c], (0 : Int)))).foldl addN l = l := by
  induction t with
  | nil => rfl
  | cons c t ih =>
    rw [List.map_cons, List.foldl_cons]
    have : addN l (1, [c], 0) = l := by unfold addN; rw [if_neg]; intro h; exact absurd h.1 (by simp [isTagK])
    rw [this]; exact ih
theorem num_pos (f : List It) (l : List Int) : (posI f).foldl addN l = f.foldl addN l := by
  induction f generalizing l with
  | nil => rfl
  | cons x f ih =>
    have e : posI (x :: f) = (if x.1 = 1 then x.2.1.map (fun c => ((1 : Int), [c], (0 : Int))) else [x]) ++ posI f := by simp [posI]
    rw [e, List.foldl_append, List.foldl_cons, ih]
    congr 1
    split
    · rename_i h
      rw [num_bytes]
      unfold addN
      rw [if_neg]
      intro h2
      have := h2.1
      rw [h] at this
      simp [isTagK] at this
    · rfl
theorem okT_num : ∀ (ps op : List It) (c : Nat) {op' : List It} {c' : Nat}, okT ps op c = some (op', c') → (∀ o ∈ op, 1 ≤ o.2.2 ∧ o.2.2 ≤ c) →
    ps.foldl addN (upL c) = upL c' ∧ (∀ o ∈ op', 1 ≤ o.2.2 ∧ o.2.2 ≤ c') ∧ c ≤ c' ∧ ∀ p ∈ ps, isTagK p.1 = true → 1 ≤ p.2.2 ∧ p.2.2 ≤ c'
  | [], op, c, op', c', h, ho => by
    simp only [okT, Option.some.injEq, Prod.mk.injEq] at h
    obtain ⟨rfl, rfl⟩ := h
    exact ⟨rfl, ho, Nat.le_refl _, fun p hp => by cases hp⟩
  | p :: ps, op, c, op', c', h, ho => by
    rw [okT] at h
    cases hs : stepT op c p.1 p.2.1 with
    | none => rw [hs] at h; cases h
    | some y =>
      obtain ⟨i, op2, c2⟩ := y
      rw [hs] at h
      simp only at h
      split at h
      · rename_i hi
        subst hi
        have key : addN (upL c) p = upL c2 ∧ (∀ o ∈ op2, 1 ≤ o.2.2 ∧ o.2.2 ≤ c2) ∧ c ≤ c2 ∧ (isTagK p.1 = true → 1 ≤ p.2.2 ∧ p.2.2 ≤ c2) := by
          unfold stepT at hs
          split at hs
          · rename_i h3
            cases hg : op.getLast? with
            | none => rw [hg] at hs; cases hs
            | some o =>
              rw [hg] at hs
              simp only at hs
              split at hs
              · simp only [Option.some.injEq, Prod.mk.injEq] at hs
                obtain ⟨h5, rfl, rfl⟩ := hs
                have hom : o ∈ op := List.mem_of_getLast? hg
                have := ho o hom
                refine ⟨?_, fun q hq => ho q (List.dropLast_subset _ hq), Nat.le_refl _, fun _ => by omega⟩
                unfold addN
                rw [if_neg]
                rintro ⟨_, hn⟩
                exact hn (mem_upL.2 (by omega))
              · cases hs
          split at hs
          · rename_i h3 h2
            simp only [Option.some.injEq, Prod.mk.injEq] at hs
            obtain ⟨h5, rfl, rfl⟩ := hs
            refine ⟨?_, fun q hq => ?_, by omega, fun _ => by omega⟩
            · unfold addN
              rw [if_pos ⟨by rw [h2]; rfl, fun e => by have := (mem_upL.1 e).2; omega⟩, upL_suc, h5]
            · rcases List.mem_append.1 hq with hq | hq
              · have := ho q hq; omega
              · simp at hq; subst hq; simp only; omega
          split at hs
          · rename_i h3 h2 h4
            simp only [Option.some.injEq, Prod.mk.injEq] at hs
            obtain ⟨h5, rfl, rfl⟩ := hs
            refine ⟨?_, fun q hq => by have := ho q hq; omega, by omega, fun _ => by omega⟩
            unfold addN
            rw [if_pos ⟨by rw [h4]; rfl, fun e => by have := (mem_upL.1 e).2; omega⟩, upL_suc, h5]
          · rename_i h3 h2 h4
            simp only [Option.some.injEq, Prod.mk.injEq] at hs
            obtain ⟨h5, rfl, rfl⟩ := hs
            have hnt : isTagK p.1 = false := by unfold isTagK; simp [h2, h3, h4]
            refine ⟨?_, ho, Nat.le_refl _, fun e => by rw [hnt] at e; cases e⟩
            unfold addN
            rw [if_neg (fun e => by rw [hnt] at e; cases e.1)]
        obtain ⟨k1, k2, k3, k4⟩ := key
        obtain ⟨g1, g2, g3, g4⟩ := okT_num ps op2 c2 h k2
        refine ⟨by rw [List.foldl_cons, k1]; exact g1, g2, by omega, fun q hq ht => ?_⟩
        rcases List.mem_cons.1 hq with rfl | hq
        · have := k4 ht; omega
        · exact g4 q hq ht
      · cases h
/-- Items that reading has numbered keep their numbers. -/
theorem renum_ok {f : List It} {op : List It} {c : Nat} (h : okT (posI f) [] 0 = some (op, c)) : numL f = upL c ∧ f.map (renI (numL f)) = f := by
  obtain ⟨h1, _, _, h4⟩ := okT_num _ _ _ h fun o ho => by cases ho
  have hn : numL f = upL c := by rw [num_pos] at h1; exact h1
  refine ⟨hn, ?_⟩
  rw [hn]
  refine (List.map_congr_left fun x hx => ?_).trans (List.map_id f)
  unfold renI
  split
  · rename_i ht
    have hne : x.1 ≠ 1 := fun e => by rw [e] at ht; simp [isTagK] at ht
    have hm : x ∈ posI f := by
      unfold posI
      exact List.mem_flatMap.2 ⟨x, hx, by rw [if_neg hne]; simp⟩
    obtain ⟨g1, g2⟩ := h4 x hm ht
    rw [idx_upL c _ g1 g2]
    obtain ⟨k, t, i⟩ := x
    simp only at g1 g2 ⊢
    have : ((i.toNat - 1 : Nat) : Int) + 1 = i := by omega
    rw [this]; rfl
  · rfl
end Go.Proofs.YtiifjfbfkhhpeaaGreatDoor.St
