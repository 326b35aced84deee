/- Plain: reading a raw content piece by piece; fuel does not count. No program in sight. -/
import Derived.Test.YtpahkhmheikebaaGreatDoorDecPlain
namespace Go.Proofs.YtpahkhmheikebaaGreatDoor.St

/-- What an element function gives takes at least one byte, and no more than there are. -/
def ElLen (E : List UInt8 → El) : Prop := ∀ l k t n, E l = some (k, t, n) → 1 ≤ n ∧ n ≤ l.length
theorem dec_fuel {E : List UInt8 → El} (hE : ElLen E) : ∀ (fuel fuel' : Nat) (l : List UInt8) (a d : Nat) (f : List It) (cuts : List Nat), l.length ≤ fuel → l.length ≤ fuel' → dec E fuel l a d f cuts = dec E fuel' l a d f cuts
  | 0, fuel', l, a, d, f, cuts, h, _ => by
    have : l = [] := List.eq_nil_of_length_eq_zero (by omega)
    subst this
    cases fuel' <;> simp [dec]
  | fuel + 1, 0, l, a, d, f, cuts, _, h => by
    have : l = [] := List.eq_nil_of_length_eq_zero (by omega)
    subst this
    simp [dec]
  | fuel + 1, fuel' + 1, l, a, d, f, cuts, h, h' => by
    by_cases h0 : l = []
    · subst h0; simp [dec]
    · rw [dec, dec, if_neg h0, if_neg h0]
      cases hs : E l with
      | none => rfl
      | some x =>
        obtain ⟨k, t, n⟩ := x
        have hn := hE _ _ _ _ hs
        have hl : (l.drop n).length ≤ fuel ∧ (l.drop n).length ≤ fuel' := by simp; omega
        simp only []
        rw [dec_fuel hE fuel fuel' _ _ _ _ _ hl.1 hl.2, dec_fuel hE fuel fuel' _ _ _ _ _ hl.1 hl.2]
/-- Reading with enough fuel. -/
def decF (E : List UInt8 → El) (l : List UInt8) (a d : Nat) (f : List It) (cuts : List Nat) : List It × List Nat × Nat × Int := dec E l.length l a d f cuts
theorem decF_nil (E : List UInt8 → El) (a d : Nat) (f : List It) (cuts : List Nat) : decF E [] a d f cuts = (f, cuts ++ [d], 0, 0) := by simp [decF, dec]
def fullI (f : List It) (x : It) (cuts : List Nat) : Prop := 512 < (addI f x).length ∨ 1024 ≤ cuts.length
theorem decF_step {E : List UInt8 → El} (hE : ElLen E) {l : List UInt8} {k : Int} {t : List UInt8} {n : Nat} (a d : Nat) (f : List It) (cuts : List Nat) (h0 : l ≠ []) (h : E l = some (k, t, n)) (hk : k ≠ 0) (hf : ¬ fullI f (k, t, 0) cuts) :
    decF E l a d f cuts = decF E (l.drop n) (a + n) (a + n) (addI f (k, t, 0)) (cuts ++ [d]) := by
  unfold decF
  obtain ⟨m, hm⟩ : ∃ m, l.length = m + 1 := ⟨l.length - 1, by cases l; exact absurd rfl h0; simp⟩
  have hn := hE _ _ _ _ h
  rw [hm, dec, if_neg h0, h]
  simp only []
  unfold fullI at hf
  rw [if_neg hk, if_neg hf]
  exact dec_fuel hE _ _ _ _ _ _ _ (by simp; omega) (by simp)
theorem decF_skip {E : List UInt8 → El} (hE : ElLen E) {l : List UInt8} {t : List UInt8} {n : Nat} (a d : Nat) (f : List It) (cuts : List Nat) (h0 : l ≠ []) (h : E l = some (0, t, n)) : decF E l a d f cuts = decF E (l.drop n) (a + n) d f cuts := by
  unfold decF
  obtain ⟨m, hm⟩ : ∃ m, l.length = m + 1 := ⟨l.length - 1, by cases l; exact absurd rfl h0; simp⟩
  have hn := hE _ _ _ _ h
  rw [hm, dec, if_neg h0, h]
  simp only [if_true]
  exact dec_fuel hE _ _ _ _ _ _ _ (by simp; omega) (by simp)
theorem decF_none {E : List UInt8 → El} {l : List UInt8} (a d : Nat) (f : List It) (cuts : List Nat) (h0 : l ≠ []) (h : E l = none) : decF E l a d f cuts = ([], [], a, 2) := by
  unfold decF
  obtain ⟨m, hm⟩ : ∃ m, l.length = m + 1 := ⟨l.length - 1, by cases l; exact absurd rfl h0; simp⟩
  rw [hm, dec, if_neg h0, h]
theorem decF_full {E : List UInt8 → El} {l : List UInt8} {k : Int} {t : List UInt8} {n : Nat} (a d : Nat) (f : List It) (cuts : List Nat) (h0 : l ≠ []) (h : E l = some (k, t, n)) (hk : k ≠ 0) (hf : fullI f (k, t, 0) cuts) : decF E l a d f cuts = ([], [], a, 3) := by
  unfold decF
  obtain ⟨m, hm⟩ : ∃ m, l.length = m + 1 := ⟨l.length - 1, by cases l; exact absurd rfl h0; simp⟩
  rw [hm, dec, if_neg h0, h]
  simp only []
  unfold fullI at hf
  rw [if_neg hk, if_pos hf]
/-- A piece: bytes that give one item, whatever follows. -/
def Piece (E : List UInt8 → El) (b : List UInt8) (x : It) : Prop := ∀ rest a d f cuts, ¬ fullI f x cuts → decF E (b ++ rest) a d f cuts = decF E rest (a + b.length) (a + b.length) (addI f x) (cuts ++ [d])
theorem piece_of {E : List UInt8 → El} (hE : ElLen E) {b : List UInt8} {k : Int} {t : List UInt8} (hb : b ≠ []) (hk : k ≠ 0) (h : ∀ rest, E (b ++ rest) = some (k, t, b.length)) : Piece E b (k, t, 0) := by
  intro rest a d f cuts hf
  rw [decF_step hE a d f cuts (by simp [hb]) (h rest) hk hf]
  simp
/-- The offsets behind the pieces, without the last. -/
def offs (a d : Nat) : List (List UInt8 × It) → List Nat
  | [] => []
  | p :: ps => d :: offs (a + p.1.length) (a + p.1.length) ps
theorem offs_len (a d : Nat) (ps : List (List UInt8 × It)) : (offs a d ps).length = ps.length := by
  induction ps generalizing a d with
  | nil => rfl
  | cons p ps ih => simp [offs, ih]
def flatP (ps : List (List UInt8 × It)) : List UInt8 := ps.flatMap (·.1)
def itsP (ps : List (List UInt8 × It)) : List It := ps.map (·.2)
theorem foldl_add_len (l : List It) (f : List It) : f.length ≤ (l.foldl addI f).length := by
  induction l generalizing f with
  | nil => exact Nat.le_refl _
  | cons x l ih => exact Nat.le_trans (addI_len f x).2 (ih _)
theorem decF_pieces {E : List UInt8 → El} : ∀ (ps : List (List UInt8 × It)) (rest : List UInt8) (a d : Nat) (f : List It) (cuts : List Nat), (∀ p ∈ ps, Piece E p.1 p.2) → ((itsP ps).foldl addI f).length ≤ 512 → cuts.length + ps.length ≤ 1024 →
    decF E (flatP ps ++ rest) a d f cuts = decF E rest (a + (flatP ps).length) (if ps = [] then d else a + (flatP ps).length) ((itsP ps).foldl addI f) (cuts ++ offs a d ps)
  | [], rest, a, d, f, cuts, _, _, _ => by simp [flatP, itsP, offs]
  | p :: ps, rest, a, d, f, cuts, hp, hl, hc => by
    have h1 := hp p (by simp)
    have hl' : ((itsP ps).foldl addI (addI f p.2)).length ≤ 512 := hl
    have hfn : ¬ fullI f p.2 cuts := by
      rintro (h | h)
      · have := foldl_add_len (itsP ps) (addI f p.2); omega
      · simp at hc; omega
    have e : flatP (p :: ps) ++ rest = p.1 ++ (flatP ps ++ rest) := by simp [flatP]
    rw [e, h1 _ _ _ _ _ hfn, decF_pieces ps rest _ _ _ _ (fun q hq => hp q (by simp [hq])) hl' (by simp at hc ⊢; omega)]
    have e2 : a + p.1.length + (flatP ps).length = a + (flatP (p :: ps)).length := by simp [flatP]; omega
    have e3 : (if ps = [] then a + p.1.length else a + p.1.length + (flatP ps).length) = a + (flatP (p :: ps)).length := by
      split
      · rename_i h; subst h; simp [flatP]
      · exact e2
    rw [e2]
    rw [e2] at e3
    rw [e3]
    simp [itsP, offs]

/-- The positions of items: a text's bytes one by one. -/
def posI (f : List It) : List It := f.flatMap fun x => if x.1 = 1 then x.2.1.map (fun c => ((1 : Int), [c], (0 : Int))) else [x]
theorem addI_bytes (t s : List UInt8) (f : List It) (hs : s ≠ []) : (t.map (fun c => ((1 : Int), [c], (0 : Int)))).foldl addI (f ++ [(1, s, 0)]) = f ++ [(1, s ++ t, 0)] := by
  induction t generalizing s with
  | nil => simp
  | cons c t ih =>
    simp only [List.map_cons, List.foldl_cons]
    rw [addI_snoc]
    simp only [if_true, List.cons_ne_nil, if_false]
    rw [ih (s ++ [c]) (by simp)]
    simp
theorem addI_text (f : List It) (t : List UInt8) : (t.map (fun c => ((1 : Int), [c], (0 : Int)))).foldl addI f = addI f (1, t, 0) := by
  cases t with
  | nil => simp [addI]
  | cons c t =>
    simp only [List.map_cons, List.foldl_cons]
    rcases snoc_cases f with rfl | ⟨g, y, rfl⟩
    · rw [addI_nil, addI_nil]
      simp only [if_true, List.cons_ne_nil, if_false]
      exact addI_bytes t [c] [] (by simp)
    · rw [addI_snoc, addI_snoc]
      simp only [if_true, List.cons_ne_nil, if_false]
      split
      · rw [addI_bytes t _ _ (by simp)]; simp
      · rw [addI_bytes t [c] (g ++ [y]) (by simp)]; simp
/-- Items without tags' numbers. -/
def Plain0 (f : List It) : Prop := ∀ x ∈ f, x.2.2 = 0
theorem pos_join (l f : List It) (h : Plain0 l) : (posI l).foldl addI f = l.foldl addI f := by
  induction l generalizing f with
  | nil => rfl
  | cons x l ih =>
    have hx := h x (by simp)
    have hl : Plain0 l := fun y hy => h y (by simp [hy])
    have e : posI (x :: l) = (if x.1 = 1 then x.2.1.map (fun c => ((1 : Int), [c], (0 : Int))) else [x]) ++ posI l := by simp [posI]
    rw [e, List.foldl_append, List.foldl_cons, ← ih (addI f x) hl]
    congr 1
    split
    · rename_i h1
      rw [addI_text]
      obtain ⟨k, t, i⟩ := x
      simp only at h1 hx ⊢
      subst h1 hx; rfl
    · rfl
/-- What stands in the pieces of a joined list of items. -/
theorem pos_norm {f : List It} (h : Nm f) (h0 : Plain0 f) : (posI f).foldl addI [] = f := by
  rw [pos_join f [] h0]; exact h
end Go.Proofs.YtpahkhmheikebaaGreatDoor.St
