/- Worlds that grow by new memory and by writes to one block: how such steps are joined, and what they keep. No program in sight. -/
import Derived.Test.YthoemdibbldndaaGreatDoorSteps
set_option linter.unusedVariables false
set_option linter.unusedSimpArgs false
namespace Go.Proofs.YthoemdibbldndaaGreatDoor
open Go.RowKit

theorem gb_refl (w : World) (row : Option Nat) : w.grownBy w row := ⟨rfl, rfl, rfl, Nat.le_refl _, fun _ _ _ => rfl⟩
theorem gb_trans {a b c : World} {row row' : Option Nat} (h : a.grownBy b row) (k : b.grownBy c row') (hr : ∀ g, row' = some g → row = some g ∨ a.heap.size ≤ g) : a.grownBy c row :=
  ⟨k.os.trans h.os, k.tape.trans h.tape, k.output.trans h.output, Nat.le_trans h.size k.size, fun n hn hne => by
    rw [k.block n (Nat.lt_of_lt_of_le hn h.size) (fun e => by rcases hr n e.symm with e' | e'; exact hne e'.symm; omega), h.block n hn hne]⟩
theorem Und.gb {a b : World} (h : Und a b) (row : Option Nat) : a.grownBy b row := ⟨h.below.os, h.below.tape, h.below.output, h.size, fun k hk _ => h.below.block k hk⟩
theorem gb_und {a b c : World} {row : Option Nat} (h : a.grownBy b row) (k : Und b c) : a.grownBy c row := gb_trans h (k.gb none) (fun _ e => by cases e)
theorem gb_set (w : World) (p : Addr) (v : Value) : w.grownBy (w.setCell p v) (some p.block) := by
  refine ⟨rfl, rfl, rfl, by simp, fun k hk hne => ?_⟩
  unfold World.setCell
  simp only [Array.getElem?_modify]
  rw [if_neg (by intro e; exact hne (by rw [e]))]
theorem gb_setCell {a b : World} {row : Option Nat} (h : a.grownBy b row) (p : Addr) (v : Value) (hr : row = some p.block ∨ a.heap.size ≤ p.block) : a.grownBy (b.setCell p v) row :=
  gb_trans h (gb_set b p v) (fun g e => by cases e; exact hr)
theorem Und.of_gb {a b c : World} {row : Option Nat} (h : Und a b) (k : b.grownBy c row) (hr : ∀ g, row = some g → a.heap.size ≤ g) : Und a c := h.grown k hr
theorem gb_cell {a b : World} {row : Option Nat} (h : a.grownBy b row) {p : Addr} (hp : p.block < a.heap.size) (hne : some p.block ≠ row) : b.cell? p = a.cell? p := World.cell?_of_block (h.block _ hp hne)
theorem gb_frozen {a b : World} {row : Option Nat} (h : a.grownBy b row) {p : Addr} (hp : p.block < a.heap.size) (hne : some p.block ≠ row) : b.frozen? p = a.frozen? p := World.frozen?_of_block (h.block _ hp hne)

/-- Rows of different element types lie in different blocks. -/
theorem rows_ne {w : World} {B B' e e' size size' n n' : Nat} {v v' : Value} {xs xs' : List Value} (h : w.ownsRow B e size v n xs) (h' : w.ownsRow B' e' size' v' n' xs') (hne : e ≠ e') : v.ownBlock = none ∨ v.ownBlock ≠ v'.ownBlock := by
  rcases h.2 with ⟨rfl, _⟩ | ⟨g, cap, cur, rfl, _, hgg, _⟩
  · exact .inl rfl
  · rcases h'.2 with ⟨rfl, _⟩ | ⟨g', cap', cur', rfl, _, hgg', _⟩
    · exact .inr (by simp [Value.ownBlock])
    · refine .inr fun he => ?_
      simp only [Value.ownBlock, Option.some.injEq] at he
      subst he
      rw [hgg] at hgg'
      simp only [Option.some.injEq, Obj.cells.injEq] at hgg'
      exact hne hgg'.2.1
theorem own_gb {w w' : World} {B e size n : Nat} {v : Value} {xs : List Value} (h : w.ownsRow B e size v n xs) {g : Nat} (k : w.grownBy w' (some g)) (hg : g < B) : w'.ownsRow B e size v n xs :=
  h.kept k (by
    cases hv : v.ownBlock with
    | none => exact .inl rfl
    | some x => exact .inr (by have := (h.lt x hv).1; simp; omega))
/-- The base of an own row may be lowered. -/
theorem own_low {w : World} {base base' e size n : Nat} {v : Value} {xs : List Value} (h : w.ownsRow base e size v n xs) (hb : base' ≤ base) : w.ownsRow base' e size v n xs :=
  ⟨h.1, h.2.imp id fun ⟨g, cap, cur, h1, h2, h3⟩ => ⟨g, cap, cur, h1, Nat.le_trans hb h2, h3⟩⟩
theorem own_slice {w : World} {base e size n : Nat} {v : Value} {xs : List Value} (h : w.ownsRow base e size v n xs) : ∃ A cap, v = .slice A n cap ∧ n ≤ cap ∧ cap ≤ maxLen := by
  rcases h.2 with ⟨rfl, rfl⟩ | ⟨g, cap, cur, rfl, _, _, h1, h2, _⟩
  · exact ⟨_, _, rfl, Nat.le_refl _, by unfold maxLen; omega⟩
  · exact ⟨_, _, rfl, h1, h2⟩
theorem own_slice' {w : World} {base e size n : Nat} {v : Value} {xs : List Value} (h : w.ownsRow base e size v n xs) : ∃ A cap, v = .slice A n cap ∧ n ≤ cap ∧ cap ≤ maxLen ∧ (A = none → cap = 0) := by
  rcases h.2 with ⟨rfl, rfl⟩ | ⟨g, cap, cur, rfl, _, _, h1, h2, _⟩
  · exact ⟨_, _, rfl, Nat.le_refl _, by unfold maxLen; omega, fun _ => rfl⟩
  · exact ⟨_, _, rfl, h1, h2, fun e => by cases e⟩
theorem own_cell {w : World} {base e size n cap : Nat} {A : Option Addr} {xs : List Value} (h : w.ownsRow base e size (.slice A n cap) n xs) (h0 : 0 < n) :
    ∃ g, A = some ⟨g, 0, none⟩ ∧ base ≤ g ∧ g < w.heap.size ∧ ∀ j u, xs[j]? = some u → w.cell? ⟨g, j, none⟩ = some u := by
  have hc := fun g => h.cells (g := g)
  rcases h.2 with ⟨e, rfl⟩ | ⟨g, cap', cur, e, hb, hh, _⟩
  · omega
  · simp only [Value.slice.injEq] at e
    obtain ⟨rfl, _, rfl⟩ := e
    refine ⟨g, rfl, hb, (Array.getElem?_eq_some_iff.1 hh).1, fun j u hu => ?_⟩
    have := hc g rfl j u hu
    have hadd : (⟨g, 0, none⟩ : Addr).add j = ⟨g, j, none⟩ := by unfold Addr.add; split <;> simp_all
    rwa [hadd] at this
end Go.Proofs.YthoemdibbldndaaGreatDoor
