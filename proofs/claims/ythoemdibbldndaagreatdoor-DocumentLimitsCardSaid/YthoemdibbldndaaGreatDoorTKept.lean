/- Worlds in which only rows of certain types were written: every block of another type stands as it was. No program in sight. -/
import Derived.Test.YthoemdibbldndaaGreatDoorNames
import Derived.Test.YthoemdibbldndaaGreatDoorFrame
import Derived.Lib.Builder
set_option linter.unusedVariables false
set_option linter.unusedSimpArgs false
namespace Go.Proofs.YthoemdibbldndaaGreatDoor
open Go.RowKit

def TKept (ts : List TypeId) (w w' : World) : Prop := w.heap.size ≤ w'.heap.size ∧ ∀ (k : Nat) (cs : Array Value) (T : TypeId) (fr : Nat × Nat), w.heap[k]? = some (Obj.cells cs T fr) → T ∉ ts → w'.heap[k]? = w.heap[k]?
theorem TKept.refl (ts : List TypeId) (w : World) : TKept ts w w := ⟨Nat.le_refl _, fun _ _ _ _ _ _ => rfl⟩
theorem TKept.trans {ts : List TypeId} {a b c : World} (h : TKept ts a b) (k : TKept ts b c) : TKept ts a c :=
  ⟨Nat.le_trans h.1 k.1, fun i cs T fr hi hT => by
    have h1 := h.2 i cs T fr hi hT
    rw [k.2 i cs T fr (h1.trans hi) hT, h1]⟩
theorem lt_of_heap {w : World} {k : Nat} {o : Obj} (h : w.heap[k]? = some o) : k < w.heap.size := (Array.getElem?_eq_some_iff.1 h).1
theorem Und.tk {a b : World} (h : Und a b) (ts : List TypeId) : TKept ts a b := ⟨h.size, fun k _ _ _ hk _ => h.below.block k (lt_of_heap hk)⟩
theorem tk_set {ts : List TypeId} {w : World} {p : Addr} {v : Value} {cs : Array Value} {T : TypeId} {fr : Nat × Nat} (hb : w.heap[p.block]? = some (.cells cs T fr)) (hT : T ∈ ts) : TKept ts w (w.setCell p v) := by
  refine ⟨by simp, fun k cs' T' fr' hk hT' => ?_⟩
  unfold World.setCell
  simp only [Array.getElem?_modify]
  rw [if_neg]
  intro e
  subst e
  rw [hb] at hk
  simp only [Option.some.injEq, Obj.cells.injEq] at hk
  exact hT' (hk.2.1 ▸ hT)
theorem tk_grown {ts : List TypeId} {w w' : World} {row : Option Nat} (h : w.grownBy w' row) (hr : ∀ g, row = some g → ∃ cs T fr, w.heap[g]? = some (.cells cs T fr) ∧ T ∈ ts) : TKept ts w w' := by
  refine ⟨h.size, fun k cs T fr hk hT => h.block k (lt_of_heap hk) ?_⟩
  intro e
  obtain ⟨cs', T', fr', h1, h2⟩ := hr k e.symm
  rw [hk] at h1
  simp only [Option.some.injEq, Obj.cells.injEq] at h1
  exact hT (h1.2.1 ▸ h2)
theorem own_type {w : World} {B e size n : Nat} {v : Value} {xs : List Value} (h : w.ownsRow B e size v n xs) (ts : List TypeId) (he : e ∈ ts) : ∀ g, v.ownBlock = some g → ∃ cs T fr, w.heap[g]? = some (.cells cs T fr) ∧ T ∈ ts := by
  intro g hg
  rcases h.2 with ⟨rfl, _⟩ | ⟨g', cap, cur, rfl, _, hh, _⟩
  · simp [Value.ownBlock] at hg
  · simp only [Value.ownBlock, Option.some.injEq] at hg
    subst hg
    exact ⟨cur, e, _, hh, he⟩
theorem TKept.cell {ts : List TypeId} {a b : World} (h : TKept ts a b) {k : Nat} {cs : Array Value} {T : TypeId} {fr : Nat × Nat} (hk : a.heap[k]? = some (.cells cs T fr)) (hT : T ∉ ts) (j : Nat) : b.cell? ⟨k, j, none⟩ = cs[j]? :=
  Lib.cell_of_heap ((h.2 k cs T fr hk hT).trans hk) j
theorem Und.of_below {w w' : World} (h : Below w.heap.size w w') : Und w w' := ⟨w', (under_eq h).symm⟩
theorem own_und {a b : World} (h : Und a b) {B e size n : Nat} {v : Value} {xs : List Value} (k : a.ownsRow B e size v n xs) : b.ownsRow B e size v n xs :=
  k.kept (h.gb none) (by cases v.ownBlock <;> simp)
end Go.Proofs.YthoemdibbldndaaGreatDoor
