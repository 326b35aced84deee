/- The contracts of the parts' builder and of sheet's table: header, Unit, List. Condition: they lie in blocks of the call's own. -/
import Derived.Test.YtdchoobekngehaaGreatDoorSheetField
import Derived.Test.YtdchoobekngehaaGreatDoorPartB
namespace Go.Proofs.YtdchoobekngehaaGreatDoor
open Go.RowKit

def TV (w : World) (tb pb : Nat) (d : ByteArray) (r cols col texts : Nat) : Prop :=
  w.heap[tb]? = some (Obj.cells #[.string d, .pointer (some ⟨pb, 0, none⟩), .int .i64 r, .int .i64 cols, .int .i64 col, .int .i64 texts] 80 (0, 0))
theorem TV.und {a c : World} {tb pb : Nat} {d : ByteArray} {r cols col texts : Nat} (h : TV a tb pb d r cols col texts) (u : Und a c) : TV c tb pb d r cols col texts := (u.below.block tb (lt_of_heap h)).trans h
theorem TV.tk {a c : World} {tb pb : Nat} {d : ByteArray} {r cols col texts : Nat} (h : TV a tb pb d r cols col texts) (u : TKept ptT a c) : TV c tb pb d r cols col texts := (u.2 tb _ _ _ h (by simp [ptT])).trans h
theorem PV.tab {a c : World} {B pb tb : Nat} {d : ByteArray} {s : St.PS} {r cols col texts pb' : Nat} {d' : ByteArray} (h : PV a B pb d s) (ht : TV a tb pb' d' r cols col texts) (g : a.grownBy c (some tb)) : PV c B pb d s := by
  obtain ⟨h0, v, h1, h2⟩ := h
  have hne : pb ≠ tb := fun e => by
    subst e
    unfold TV at ht
    rw [h1] at ht
    simp at ht
  exact ⟨h0, v, (g.block pb (lt_of_heap h1) (by simpa using hne)).trans h1, h2.kept g (Or.inr (own_ne h2 ht (by decide)))⟩

def sText : ByteArray := ⟨#[116, 101, 120, 116]⟩
set_option maxRecDepth 20000 in
set_option maxHeartbeats 3200000 in
theorem header_any (w : World) (tb pb : Nat) (d : ByteArray) (cols col texts a b n : Nat) (h : TV w tb pb d 0 cols col texts) (hab : a ≤ b) (hb : b ≤ d.size) (hd : d.size ≤ 4611686018427387904) (hn : n ≤ 4611686018427387904) (ht : texts ≤ 4611686018427387904) :
    Calls Tryz.prog 56 #[.pointer (some ⟨tb, 0, none⟩), .int .i64 a, .int .i64 b, .int .i64 n] w fun e w' => e = .returned (.tuple #[]) ∧
      TV w' tb pb d 0 (n + 1) (if St.cutL d.data.toList a b == [116, 101, 120, 116] then n else col) (if St.cutL d.data.toList a b == [116, 101, 120, 116] then texts + 1 else texts) ∧ w.grownBy w' (some tb) := by
  have hv := h
  unfold TV at hv
  have c0 : w.cell? ⟨tb, 0, none⟩ = some (.string d) := Lib.cell_of_heap hv 0
  have c3 : w.cell? ⟨tb, 3, none⟩ = some (.int .i64 cols) := Lib.cell_of_heap hv 3
  have c4 : w.cell? ⟨tb, 4, none⟩ = some (.int .i64 col) := Lib.cell_of_heap hv 4
  have c5 : w.cell? ⟨tb, 5, none⟩ = some (.int .i64 texts) := Lib.cell_of_heap hv 5
  have f3 : w.frozen? ⟨tb, 3, none⟩ = false := Lib.frozen_of_heap hv 3
  have f4 : w.frozen? ⟨tb, 4, none⟩ = false := Lib.frozen_of_heap hv 4
  have f5 : w.frozen? ⟨tb, 5, none⟩ = false := Lib.frozen_of_heap hv 5
  haveI : LtW tb w := LtW.of (lt_of_heap hv)
  have HV := hid hv
  rw [← cut_list]
  obtain ⟨s, hE⟩ : ∃ s, d.extract a b = s := ⟨_, rfl⟩
  rw [hE]
  have za : (0 : Int) ≤ a := by omega
  have zab : (a : Int) ≤ b := by omega
  have zb : (b : Int) ≤ d.size := by omega
  by_cases hs : s = sText
  · subst hs
    unfold sText at hE
    have hif : ((sText.data.toList == [116, 101, 120, 116]) = true) := rfl
    rw [if_pos hif, if_pos hif]
    clear hv h
    go_enter Tryz.func56, Tryz.ntmps56
    go_wp2
    go_end0
    refine ⟨rfl, ?_, gb_setCell (gb_setCell (gb_set w ⟨tb, 5, none⟩ _) ⟨tb, 4, none⟩ _ (Or.inl rfl)) ⟨tb, 3, none⟩ _ (Or.inl rfl)⟩
    exact heap_setCell_same _ tb 3 _ _ _ (heap_setCell_same _ tb 4 _ _ _ (heap_setCell_same _ tb 5 _ _ _ HV.out))
  · have hif : ¬ ((s.data.toList == [116, 101, 120, 116]) = true) := by
      intro e
      exact hs (bytes_ext _ _ (show s.data.toList = sText.data.toList from eq_of_beq e))
    rw [if_neg hif, if_neg hif]
    have hne : (s.toList == [116, 101, 120, 116]) = false := by rw [Lib.toList_data]; exact Bool.eq_false_iff.2 hif
    clear hv h hif hs
    go_enter Tryz.func56, Tryz.ntmps56
    go_wp2
    go_end0
    exact ⟨rfl, heap_setCell_same _ tb 3 _ _ _ HV.out, gb_set w ⟨tb, 3, none⟩ _⟩
end Go.Proofs.YtdchoobekngehaaGreatDoor
