/- The contract of role's read: the user of any line. Conditions: the line is shorter than the library's search bears, and the library's variables lie in memory. -/
import Derived.Test.YthgmlkeojhfijaaDoorRoleNum
import Derived.Test.YthgmlkeojhfijaaDoorRoleUsers
import Derived.Deep.RegionWith
namespace Go.Proofs.YthgmlkeojhfijaaDoor
open Go.RowKit

def StrsAt (w : World) (b off : Nat) (ws : List ByteArray) : Prop := ∀ j x, ws[j]? = some x → w.cell? ⟨b, off + j, none⟩ = some (.string x)
theorem StrsAt.und {w w' : World} {b off : Nat} {ws : List ByteArray} (h : StrsAt w b off ws) (u : Und w w') : StrsAt w' b off ws := fun j x hx => by
  have := h j x hx
  exact (u.cell (World.block_lt_of_cell? _ _ this)).trans this
theorem StrsAt.gb {w w' : World} {b off : Nat} {ws : List ByteArray} {row : Option Nat} (h : StrsAt w b off ws) (u : w.grownBy w' row) (hr : some b ≠ row) : StrsAt w' b off ws := fun j x hx => by
  have := h j x hx
  exact (gb_cell u (World.block_lt_of_cell? _ _ this) hr).trans this
def SplitEnd (s : ByteArray) (w : World) (e : Ending) (w' : World) : Prop :=
  ∃ (ws : List ByteArray) (B n : Nat), e = .returned (.slice (some ⟨B, 0, none⟩) n n) ∧ ws.map (·.data.toList) = Ln.words s.data.toList ∧ ws.length = n ∧ w.heap.size ≤ B ∧ n ≤ s.size + 2 ∧ StrsAt w' B 0 ws ∧ Und w w'
theorem split_any (s : ByteArray) (w : World) (hs : s.size < 4294967281) (hL : LibAt w) : Calls Tryd.prog 53 #[.string s, .string ⟨#[32]⟩] w (SplitEnd s w) := by
  obtain ⟨m, hm⟩ := hL.len
  refine (Tryd.strings_Split s ⟨#[32]⟩ m w hs hm (by show 1 ≤ 1; omega)).mono ?_
  rintro e w' ⟨rfl, rfl⟩
  have hd := Lib.splitB_data ⟨#[32]⟩ 0 (Lib.countB s ⟨#[32]⟩) s
  have hw := Ln.split_words _ s.data.toList (Nat.le_refl _)
  have hl := Ln.split_len _ s.data.toList (Nat.le_refl _)
  have hll : (Lib.splitB ⟨#[32]⟩ 0 (Lib.countB s ⟨#[32]⟩) s).length = Lib.countB s ⟨#[32]⟩ + 1 := by
    have := congrArg List.length hd
    rw [List.length_map] at this
    exact this.trans hl
  refine ⟨_, w.heap.size, _, rfl, hd.trans hw, hll, Nat.le_refl _, ?_, fun j x hx => ?_, (Und.refl w).alloc _⟩
  · have := Lib.count_le s.data.toList [32]
    have h2 : s.data.toList.length = s.size := by simp
    show Lib.count s.data.toList [32] + 1 ≤ _
    omega
  · rw [Nat.zero_add, World.cell?_alloc_at _ _ _ _ rfl]
    simp [hx]

/-- The box of a result of type User, as it was made. -/
def ResBox (w : World) (R : Nat) : Prop :=
  w.cell? ⟨R, 0, none⟩ = some (.string ⟨#[]⟩) ∧ w.cell? ⟨R, 1, none⟩ = some (.int .i64 0) ∧ w.cell? ⟨R, 2, none⟩ = some (.slice none 0 0) ∧ w.frozen? ⟨R, 0, none⟩ = false ∧ w.frozen? ⟨R, 1, none⟩ = false ∧ w.frozen? ⟨R, 2, none⟩ = false
theorem ResBox.gb {w w' : World} {R : Nat} {row : Option Nat} (h : ResBox w R) (u : w.grownBy w' row) (hr : some R ≠ row) : ResBox w' R := by
  have hb : R < w.heap.size := World.block_lt_of_cell? _ _ h.1
  obtain ⟨h0, h1, h2, f0, f1, f2⟩ := h
  exact ⟨(gb_cell u (p := ⟨R, 0, none⟩) hb hr).trans h0, (gb_cell u (p := ⟨R, 1, none⟩) hb hr).trans h1, (gb_cell u (p := ⟨R, 2, none⟩) hb hr).trans h2, (gb_frozen u (p := ⟨R, 0, none⟩) hb hr).trans f0, (gb_frozen u (p := ⟨R, 1, none⟩) hb hr).trans f1, (gb_frozen u (p := ⟨R, 2, none⟩) hb hr).trans f2⟩
theorem ResBox.und {w w' : World} {R : Nat} (h : ResBox w R) (u : Und w w') : ResBox w' R := h.gb (u.gb none) (by simp)
theorem ResBox.made (w : World) : ResBox (w.alloc (.cells #[.string ⟨#[]⟩, .int .i64 0, .slice none 0 0] 40)) w.heap.size := ⟨by go_simp, by go_simp, by go_simp, by go_simp, by go_simp, by go_simp⟩

theorem bytes_ext (a b : ByteArray) (h : a.data.toList = b.data.toList) : a = b := by
  apply ByteArray.ext; exact Array.toList_inj.1 h
theorem role_of (b : ByteArray) : (b = sReader ∧ Ln.role b.data.toList = 1 + 0) ∨ (b = sTranslator ∧ Ln.role b.data.toList = 1 + 1) ∨ (b = sReviewer ∧ Ln.role b.data.toList = 1 + 2) ∨ (b = sManager ∧ Ln.role b.data.toList = 1 + 3) ∨
    (((b.toList == sReader.toList) = false ∧ (b.toList == sTranslator.toList) = false ∧ (b.toList == sReviewer.toList) = false ∧ (b.toList == sManager.toList) = false) ∧ Ln.role b.data.toList = 0) := by
  simp only [Lib.toList_data]
  unfold Ln.role
  by_cases h1 : b.data.toList = Ln.wReader
  · exact Or.inl ⟨bytes_ext _ _ h1, by rw [if_pos h1]; rfl⟩
  by_cases h2 : b.data.toList = Ln.wTranslator
  · exact Or.inr (Or.inl ⟨bytes_ext _ _ h2, by rw [if_neg h1, if_pos h2]; rfl⟩)
  by_cases h3 : b.data.toList = Ln.wReviewer
  · exact Or.inr (Or.inr (Or.inl ⟨bytes_ext _ _ h3, by rw [if_neg h1, if_neg h2, if_pos h3]; rfl⟩))
  by_cases h4 : b.data.toList = Ln.wManager
  · exact Or.inr (Or.inr (Or.inr (Or.inl ⟨bytes_ext _ _ h4, by rw [if_neg h1, if_neg h2, if_neg h3, if_pos h4]; rfl⟩)))
  · exact Or.inr (Or.inr (Or.inr (Or.inr ⟨⟨beq_eq_false_iff_ne.2 h1, beq_eq_false_iff_ne.2 h2, beq_eq_false_iff_ne.2 h3, beq_eq_false_iff_ne.2 h4⟩, by rw [if_neg h1, if_neg h2, if_neg h3, if_neg h4]⟩)))
def sRoles : List ByteArray := [sReader, sTranslator, sReviewer, sManager]
set_option maxHeartbeats 3200000 in
theorem index_role (b : ByteArray) (B : Nat) (w : World) (h0 : w.cell? ⟨B, 0, none⟩ = some (.string sReader)) (h1 : w.cell? ⟨B, 1, none⟩ = some (.string sTranslator)) (h2 : w.cell? ⟨B, 2, none⟩ = some (.string sReviewer)) (h3 : w.cell? ⟨B, 3, none⟩ = some (.string sManager)) :
    Calls Tryd.prog 54 #[.slice (some ⟨B, 0, none⟩) 4 4, .string b] w fun e w' => e = .returned (.int .i64 (Ln.role b.data.toList - 1)) ∧ w = w' := by
  have e01 : (sTranslator.toList == sReader.toList) = false := by rw [Lib.toList_data, Lib.toList_data]; decide
  have e02 : (sReviewer.toList == sReader.toList) = false := by rw [Lib.toList_data, Lib.toList_data]; decide
  have e12 : (sReviewer.toList == sTranslator.toList) = false := by rw [Lib.toList_data, Lib.toList_data]; decide
  have e03 : (sManager.toList == sReader.toList) = false := by rw [Lib.toList_data, Lib.toList_data]; decide
  have e13 : (sManager.toList == sTranslator.toList) = false := by rw [Lib.toList_data, Lib.toList_data]; decide
  have e23 : (sManager.toList == sReviewer.toList) = false := by rw [Lib.toList_data, Lib.toList_data]; decide
  rcases role_of b with ⟨rfl, hr⟩ | ⟨rfl, hr⟩ | ⟨rfl, hr⟩ | ⟨rfl, hr⟩ | ⟨⟨x0, x1, x2, x3⟩, hr⟩
  all_goals
    have HR := hid hr
    clear hr
    go_enter Tryd.func54, Tryd.ntmps54
    go_wp2
    refine wp_loop_rounds 5 ?_
    rw [rounds_succ]
    go_wp2
  · go_ret; exact ⟨ret_int (by rw [HR.out]; rfl), rfl⟩
  all_goals
    rw [rounds_succ]
    go_wp2
  · go_ret; exact ⟨ret_int (by rw [HR.out]; rfl), rfl⟩
  all_goals
    rw [rounds_succ]
    go_wp2
  · go_ret; exact ⟨ret_int (by rw [HR.out]; rfl), rfl⟩
  all_goals
    rw [rounds_succ]
    go_wp2
  · go_ret; exact ⟨ret_int (by rw [HR.out]; rfl), rfl⟩
  rw [rounds_succ]
  go_wp2
  go_ret
  exact ⟨ret_int (by rw [HR.out]; rfl), rfl⟩
end Go.Proofs.YthgmlkeojhfijaaDoor
