/- One item in memory; the conversion of one byte to a string. No function in sight. -/
import Derived.Test.YthoemdibbldndaaGreatDoorItems
import Derived.Laws.BytesArg
import Derived.WalkSpells
import Derived.Lib.Strings
set_option linter.unusedVariables false
set_option linter.unusedSimpArgs false
namespace Go.Proofs.YthoemdibbldndaaGreatDoor
open Go.RowKit

/-- A conversion of one byte, by the cell that is read. -/
noncomputable def convFrom1 (W : World) (b : Nat) : Option Value → Result Value
  | some (.int .u8 c) => .ok (.string ⟨#[UInt8.ofNat c.toNat]⟩) W
  | _ => (convert 22 9 (.slice (some ⟨b, 0, none⟩) 1 1)).run Tryz.prog W
@[go_sem] theorem conv_cell1 (W : World) (b : Nat) : (convert 22 9 (.slice (some ⟨b, 0, none⟩) 1 1)).run Tryz.prog W = convFrom1 W b (W.cell? ⟨b, 0, none⟩) := by
  unfold convFrom1
  split
  · rename_i c h
    rw [run_convert_bytes_arg _ 22 5 Tryz.underlying22 Tryz.underlying5 b 0 1 1 [c] rfl (fun i hi => by
      obtain rfl : i = 0 := by omega
      simpa using h) _ Tryz.underlying9]
    rfl
  · rfl
@[go_sem] theorem convFrom1_some (W : World) (b : Nat) (c : Int) : convFrom1 W b (some (.int .u8 c)) = .ok (.string ⟨#[UInt8.ofNat c.toNat]⟩) W := rfl

theorem items_box (W : World) (b : Nat) (k : Int) (t : List UInt8) (hb : b < W.heap.size) (h0 : W.cell? ⟨b, 0, none⟩ = some (.int .i64 k)) (h1 : W.cell? ⟨b, 1, none⟩ = some (.string ⟨t.toArray⟩)) (h2 : W.cell? ⟨b, 2, none⟩ = some (.int .i64 0)) : ItemsAt W (some ⟨b, 0, none⟩) [(k, t, 0)] := by
  intro _
  refine ⟨b, 0, rfl, hb, fun j hj => ?_⟩
  obtain rfl : j = 0 := by simpa using hj
  exact ⟨h0, h1, h2⟩
theorem items_box2 (w : World) (k : Int) (t : List UInt8) (o : Obj) (T : TypeId) : ItemsAt ((w.alloc o).alloc (.cells #[.int .i64 k, .string ⟨t.toArray⟩, .int .i64 0] T)) (some ⟨w.heap.size + 1, 0, none⟩) [(k, t, 0)] :=
  items_box _ _ _ _ (by simp) (by simp) (by simp) (by simp)
end Go.Proofs.YthoemdibbldndaaGreatDoor
