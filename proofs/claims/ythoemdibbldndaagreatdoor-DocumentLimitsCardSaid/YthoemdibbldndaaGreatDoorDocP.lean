/- For a region that draws its order and makes a document of its own besides calls: which worlds may follow one another, and what is known of that document. No program in sight but for the types' numbers. -/
import Derived.Test.YthoemdibbldndaaGreatDoorDcD
import Derived.Test.YthoemdibbldndaaGreatDoorFactsR
set_option linter.unusedVariables false
set_option linter.unusedSimpArgs false
namespace Go.Proofs.YthoemdibbldndaaGreatDoor
open Go.RowKit

/-- A document's block. -/
def DocF (o : Option Obj) : Prop := ∃ i a n c, o = some (.cells #[.int .i64 i, .slice a n c] 25)
/-- Blocks of new documents alone may change. -/
structure RD (B : Nat) (a b : World) : Prop where
  bl : Below B a b
  nd : ∀ k, k < a.heap.size → ¬ DocF a.heap[k]? → b.heap[k]? = a.heap[k]?
theorem RD.refl (B : Nat) (a : World) : RD B a a := ⟨Below.refl B a, fun _ _ _ => rfl⟩
theorem RD.trans {B : Nat} {a b c : World} (h : RD B a b) (k : RD B b c) : RD B a c :=
  ⟨h.bl.trans k.bl, fun i hi hn => by
    have h1 := h.nd i hi hn
    rw [← h1] at hn
    exact (k.nd i (Nat.lt_of_lt_of_le hi h.bl.size) hn).trans h1⟩
theorem RD.of {B : Nat} {a b : World} (h : Und a b) (hB : B ≤ a.heap.size) : RD B a b := ⟨h.below.mono hB, fun i hi _ => h.below.block i hi⟩
theorem RD.und {a b : World} (h : RD a.heap.size a b) : Und a b := Und.mk h.bl
theorem RD.at {B g : Nat} {a b : World} {o : Obj} (h : RD B a b) (hg : a.heap[g]? = some o) (hn : ¬ DocF (some o)) : b.heap[g]? = some o := by
  rw [h.nd g (lt_of_heap hg) (by rw [hg]; exact hn)]; exact hg
theorem RD.parts {B : Nat} {a b : World} {A : Option Addr} {ps : List St.Pt} (h : RD B a b) (hP : PartsAt a A ps) : PartsAt b A ps := by
  intro h0
  obtain ⟨g, off, rfl, hg, hc⟩ := hP h0
  have hn : ¬ DocF a.heap[g]? := by
    rintro ⟨i, a', n, c, e⟩
    have h1 := (hc 0 h0).1
    rw [Lib.cell_of_heap e] at h1
    match hm : off + 0 * 3, h1 with
    | 0, h1 => simp at h1
    | 1, h1 => simp at h1
    | k + 2, h1 => simp at h1
  have hb := h.nd g hg hn
  refine ⟨g, off, rfl, Nat.lt_of_lt_of_le hg h.bl.size, fun j hj => ?_⟩
  have hbl : ∀ off', b.cell? ⟨g, off', none⟩ = a.cell? ⟨g, off', none⟩ := fun off' => World.cell?_of_block (a := ⟨g, off', none⟩) hb
  rw [hbl, hbl, hbl]
  exact hc j hj
/-- The document that operation 'al' makes and operation 'st' writes: what operation 'x' has given. -/
def IDoc (B x al st : Nat) (ρ : Nat → Value) (L : Nat → Bool) (W : World) : Prop :=
  B ≤ W.heap.size ∧ (L al = true → ∃ g i a n c, ρ al = .pointer (some ⟨g, 0, none⟩) ∧ B ≤ g ∧ W.heap[g]? = some (.cells #[.int .i64 i, .slice a n c] 25) ∧ (L st = true → .agg #[.int .i64 i, .slice a n c] = ρ x))
section
variable {B x al st : Nat} {ρ : Nat → Value} {L : Nat → Bool} {W W' : World}
theorem IDoc.keep (h : IDoc B x al st ρ L W) (u : Und W W') (i : Nat) (v : Value) (h1 : i ≠ al) (h2 : i ≠ st) (h3 : i ≠ x ∨ L st = false) : IDoc B x al st (upd ρ i v) (updB L i) W' := by
  refine ⟨Nat.le_trans h.1 u.size, fun hL => ?_⟩
  have hL' : L al = true := by unfold updB at hL; rwa [if_neg (Ne.symm h1)] at hL
  obtain ⟨g, j, a, n, c, e1, e2, e3, e4⟩ := h.2 hL'
  refine ⟨g, j, a, n, c, by unfold upd; rw [if_neg (Ne.symm h1)]; exact e1, e2, (u.below.block g (lt_of_heap e3)).trans e3, fun hs => ?_⟩
  have hs' : L st = true := by unfold updB at hs; rwa [if_neg (Ne.symm h2)] at hs
  rcases h3 with h3 | h3
  · unfold upd; rw [if_neg (Ne.symm h3)]; exact e4 hs'
  · rw [h3] at hs'; cases hs'
theorem IDoc.alloc (h : IDoc B x al st ρ L W) (hs : L st = false) (hne : st ≠ al) (i : Int) (a : Option Addr) (n c : Nat) : IDoc B x al st (upd ρ al (.pointer (some ⟨W.heap.size, 0, none⟩))) (updB L al) (W.alloc (.cells #[.int .i64 i, .slice a n c] 25)) := by
  refine ⟨Nat.le_trans h.1 (by simp), fun _ => ⟨W.heap.size, i, a, n, c, by unfold upd; rw [if_pos rfl], h.1, heap_alloc_new W _, fun hq => ?_⟩⟩
  unfold updB at hq
  rw [if_neg hne, hs] at hq; cases hq
theorem IDoc.store (h : IDoc B x al st ρ L W) (hx : x ≠ st) (hal : al ≠ st) {g : Nat} {i : Int} {a : Option Addr} {n c : Nat} (v : Value) (e1 : ρ al = .pointer (some ⟨g, 0, none⟩)) (e2 : B ≤ g) (e3 : DocF W.heap[g]?) (e4 : ρ x = .agg #[.int .i64 i, .slice a n c]) :
    IDoc B x al st (upd ρ st v) (updB L st) ((W.setCell ⟨g, 0, none⟩ (.int .i64 i)).setCell ⟨g, 1, none⟩ (.slice a n c)) := by
  obtain ⟨i', a', n', c', e3⟩ := e3
  have h1 := heap_setCell_same _ _ 0 _ _ (.int .i64 i) e3
  have h2 := heap_setCell_same _ _ 1 _ _ (.slice a n c) h1
  refine ⟨by simpa using h.1, fun _ => ⟨g, i, a, n, c, by unfold upd; rw [if_neg hal]; exact e1, e2, h2, fun _ => by unfold upd; rw [if_neg hx]; exact e4.symm⟩⟩
theorem RD.store {g : Nat} (u v : Value) (e2 : B ≤ g) (e3 : DocF W.heap[g]?) : RD B W ((W.setCell ⟨g, 0, none⟩ u).setCell ⟨g, 1, none⟩ v) :=
  ⟨((Below.refl B W).setCell (p := ⟨g, 0, none⟩) e2 u).setCell (p := ⟨g, 1, none⟩) e2 v, fun k hk hn => by
    have hne : k ≠ g := fun e => hn (e ▸ e3)
    rw [Below.heap_setCell _ ⟨g, 1, none⟩ v k hne, Below.heap_setCell _ ⟨g, 0, none⟩ u k hne]⟩
end
end Go.Proofs.YthoemdibbldndaaGreatDoor
