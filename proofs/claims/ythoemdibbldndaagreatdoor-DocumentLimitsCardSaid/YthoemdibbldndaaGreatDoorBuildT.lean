/- The contracts of the codecs' builder: full, Byte, flush, Item, Items, Cuts. Condition: the builder lies in a block of the call's own. -/
import Derived.Test.YthoemdibbldndaaGreatDoorItems
import Derived.Test.YthoemdibbldndaaGreatDoorApp2
set_option linter.unusedVariables false
set_option linter.unusedSimpArgs false
namespace Go.Proofs.YthoemdibbldndaaGreatDoor.Mk
open Go.RowKit

abbrev rdT : TypeId := 180
/-- The open tags' slice, the open tags, the last number. -/
structure Mo where
  v : Value
  op : List St.It
  c : Nat
def Mo.l (m : Mo) : List Value := [m.v, .int .i64 (m.c : Int)]
variable {mo : Mo}
def Dis (a b : Value) : Prop := a.ownBlock = none ∨ a.ownBlock ≠ b.ownBlock
theorem dis_symm {a b : Value} (h : Dis a b) : Dis b a := by
  unfold Dis at h ⊢
  cases hb : b.ownBlock with
  | none => exact .inl rfl
  | some x =>
    refine .inr fun e => ?_
    rcases h with h | h
    · rw [h] at e; cases e
    · exact h (by rw [hb, e])
def BV (mo : Mo) (w : World) (B b : Nat) (v0 v1 v2 : Value) (its : List St.It) (tx : List UInt8) (cuts : List Nat) : Prop :=
  B ≤ b ∧ w.heap[b]? = some (Obj.cells ⟨v0 :: v1 :: v2 :: mo.l⟩ rdT (0, 0)) ∧ w.ownsRow B 36 3 v0 its.length (cellsIt its) ∧ w.ownsRow B 5 1 v1 tx.length (Lib.byteCells tx) ∧ w.ownsRow B 3 1 v2 cuts.length (cellsN cuts) ∧
    w.ownsRow B 36 3 mo.v mo.op.length (cellsIt mo.op) ∧ Dis v0 mo.v
/-- A reader of the call's own that holds these items, this text, these offsets. -/
def BAt (mo : Mo) (w : World) (B b : Nat) (its : List St.It) (tx : List UInt8) (cuts : List Nat) : Prop := ∃ v0 v1 v2, BV mo w B b v0 v1 v2 its tx cuts

theorem BV.und {a c : World} {B b : Nat} {v0 v1 v2 : Value} {its : List St.It} {tx : List UInt8} {cuts : List Nat} (h : BV mo a B b v0 v1 v2 its tx cuts) (u : Und a c) : BV mo c B b v0 v1 v2 its tx cuts := by
  obtain ⟨h0, h1, h2, h3, h4, h5, h6⟩ := h
  exact ⟨h0, (u.below.block b (lt_of_heap h1)).trans h1, own_und u h2, own_und u h3, own_und u h4, own_und u h5, h6⟩
theorem BAt.und {a c : World} {B b : Nat} {its : List St.It} {tx : List UInt8} {cuts : List Nat} (h : BAt mo a B b its tx cuts) (u : Und a c) : BAt mo c B b its tx cuts := by
  obtain ⟨v0, v1, v2, h⟩ := h; exact ⟨v0, v1, v2, h.und u⟩
/-- One field's row has grown and was stored. -/
theorem BV.grow1 {w w4 : World} {B b : Nat} {v0 v1 v2 v' : Value} {its : List St.It} {tx tx' : List UInt8} {cuts : List Nat} (h : BV mo w B b v0 v1 v2 its tx cuts) (hg : w.grownBy w4 v1.ownBlock) (ho : w4.ownsRow B 5 1 v' tx'.length (Lib.byteCells tx')) :
    BV mo (w4.setCell ⟨b, 1, none⟩ v') B b v0 v' v2 its tx' cuts := by
  obtain ⟨h0, h1, h2, h3, h4, h5, h6⟩ := h
  have hb4 : w4.heap[b]? = some (Obj.cells ⟨v0 :: v1 :: v2 :: mo.l⟩ rdT (0, 0)) := (hg.block b (lt_of_heap h1) (fun e => own_ne h3 h1 (by decide) e.symm)).trans h1
  exact ⟨h0, heap_setCell_same w4 b 1 _ _ v' hb4, own_set (h2.kept hg (rows_ne h2 h3 (by decide))) (own_ne h2 h1 (by decide)), own_set ho (own_ne ho hb4 (by decide)), own_set (h4.kept hg (rows_ne h4 h3 (by decide))) (own_ne h4 h1 (by decide)), own_set (h5.kept hg (rows_ne h5 h3 (by decide))) (own_ne h5 h1 (by decide)), h6⟩
theorem BV.grow2 {w w4 : World} {B b : Nat} {v0 v1 v2 v' : Value} {its : List St.It} {tx : List UInt8} {cuts cuts' : List Nat} (h : BV mo w B b v0 v1 v2 its tx cuts) (hg : w.grownBy w4 v2.ownBlock) (ho : w4.ownsRow B 3 1 v' cuts'.length (cellsN cuts')) :
    BV mo (w4.setCell ⟨b, 2, none⟩ v') B b v0 v1 v' its tx cuts' := by
  obtain ⟨h0, h1, h2, h3, h4, h5, h6⟩ := h
  have hb4 : w4.heap[b]? = some (Obj.cells ⟨v0 :: v1 :: v2 :: mo.l⟩ rdT (0, 0)) := (hg.block b (lt_of_heap h1) (fun e => own_ne h4 h1 (by decide) e.symm)).trans h1
  exact ⟨h0, heap_setCell_same w4 b 2 _ _ v' hb4, own_set (h2.kept hg (rows_ne h2 h4 (by decide))) (own_ne h2 h1 (by decide)), own_set (h3.kept hg (rows_ne h3 h4 (by decide))) (own_ne h3 h1 (by decide)), own_set ho (own_ne ho hb4 (by decide)), own_set (h5.kept hg (rows_ne h5 h4 (by decide))) (own_ne h5 h1 (by decide)), h6⟩
theorem dis_fresh {w W : World} {B e n : Nat} {v0 v' v3 : Value} {xs : List Value} (h5 : w.ownsRow B e 3 v3 n xs) (hw : w.heap.size ≤ W.heap.size) (h6 : Dis v0 v3) (hf : Fresh W v0 v') : Dis v' v3 := by
  unfold Dis at h6 ⊢
  rcases hf with hf | hf
  · rw [hf]; exact h6
  · cases hv : v'.ownBlock with
    | none => exact .inl rfl
    | some g =>
      refine .inr fun e => ?_
      have := hf g hv
      have := (h5.lt g e.symm).2
      omega
theorem BV.grow0 {w W w4 : World} {B b : Nat} {v0 v1 v2 v' : Value} {its its' : List St.It} {tx : List UInt8} {cuts : List Nat} (h : BV mo w B b v0 v1 v2 its tx cuts) (hg : w.grownBy w4 v0.ownBlock) (hw : w.heap.size ≤ W.heap.size) (hf : Fresh W v0 v') (ho : w4.ownsRow B 36 3 v' its'.length (cellsIt its')) :
    BV mo (w4.setCell ⟨b, 0, none⟩ v') B b v' v1 v2 its' tx cuts := by
  obtain ⟨h0, h1, h2, h3, h4, h5, h6⟩ := h
  have hb4 : w4.heap[b]? = some (Obj.cells ⟨v0 :: v1 :: v2 :: mo.l⟩ rdT (0, 0)) := (hg.block b (lt_of_heap h1) (fun e => own_ne h2 h1 (by decide) e.symm)).trans h1
  exact ⟨h0, heap_setCell_same w4 b 0 _ _ v' hb4, own_set ho (own_ne ho hb4 (by decide)), own_set (h3.kept hg (rows_ne h3 h2 (by decide))) (own_ne h3 h1 (by decide)), own_set (h4.kept hg (rows_ne h4 h2 (by decide))) (own_ne h4 h1 (by decide)), own_set (h5.kept hg (dis_symm h6)) (own_ne h5 h1 (by decide)), dis_fresh h5 hw h6 hf⟩
/-- The text is emptied. -/
theorem BV.clear1 {w : World} {B b : Nat} {v0 v1 v2 : Value} {its : List St.It} {tx : List UInt8} {cuts : List Nat} (h : BV mo w B b v0 v1 v2 its tx cuts) : BV mo (w.setCell ⟨b, 1, none⟩ (.slice none 0 0)) B b v0 (.slice none 0 0) v2 its [] cuts := by
  obtain ⟨h0, h1, h2, h3, h4, h5, h6⟩ := h
  exact ⟨h0, heap_setCell_same w b 1 _ _ _ h1, own_set h2 (own_ne h2 h1 (by decide)), World.ownsRow_nil _ _ _ _, own_set h4 (own_ne h4 h1 (by decide)), own_set h5 (own_ne h5 h1 (by decide)), h6⟩

set_option maxRecDepth 20000 in
set_option maxHeartbeats 1600000 in
theorem full_any (w : World) (B b : Nat) (its : List St.It) (tx : List UInt8) (cuts : List Nat) (t : Bool) (h : BAt mo w B b its tx cuts) (h1 : its.length ≤ 600) (h2 : cuts.length ≤ 2000) :
    Calls Tryz.prog 190 #[.pointer (some ⟨b, 0, none⟩), .bool t] w fun e w' => e = .returned (.bool (St.fullB its.length tx.length cuts.length t)) ∧ w = w' := by
  obtain ⟨v0, v1, v2, _, hb, h3, h4, h5, _⟩ := h
  obtain ⟨A0, c0, rfl, _⟩ := own_slice h3
  obtain ⟨A1, c1, rfl, _⟩ := own_slice h4
  obtain ⟨A2, c2, rfl, _⟩ := own_slice h5
  have g0 : w.cell? ⟨b, 0, none⟩ = some (.slice A0 its.length c0) := Lib.cell_of_heap hb 0
  have g1 : w.cell? ⟨b, 1, none⟩ = some (.slice A1 tx.length c1) := Lib.cell_of_heap hb 1
  have g2 : w.cell? ⟨b, 2, none⟩ = some (.slice A2 cuts.length c2) := Lib.cell_of_heap hb 2
  haveI : LtW b w := LtW.of (lt_of_heap hb)
  clear hb h3 h4 h5
  unfold St.fullB
  generalize its.length = n0 at *
  generalize tx.length = n1 at *
  generalize cuts.length = n2 at *
  rcases Nat.eq_zero_or_pos n1 with z | z
  · subst z
    cases t <;>
    · by_cases q1 : 512 < n0 + 1 <;> by_cases q2 : 1024 < n2 + 1 <;>
      · have q1' := q1
        have q2' := q2
        go_enter Tryz.func190, Tryz.ntmps190
        go_wp2
        go_ret
        exact ⟨ret_bool (by simp <;> omega), rfl⟩
  · have z' : (0 : Int) < (n1 : Int) := by omega
    cases t
    · by_cases q1 : 512 < n0 + 1 + 1 <;> by_cases q2 : 1024 < n2 + 1 <;>
      · go_enter Tryz.func190, Tryz.ntmps190
        go_wp2
        go_ret
        exact ⟨ret_bool (by simp <;> omega), rfl⟩
    · by_cases q1 : 512 < n0 + 1 <;> by_cases q2 : 1024 < n2 + 1 <;>
      · go_enter Tryz.func190, Tryz.ntmps190
        go_wp2
        go_ret
        exact ⟨ret_bool (by simp <;> omega), rfl⟩
end Go.Proofs.YthoemdibbldndaaGreatDoor.Mk
