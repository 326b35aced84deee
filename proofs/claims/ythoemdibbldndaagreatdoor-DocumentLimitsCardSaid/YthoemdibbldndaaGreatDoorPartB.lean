/- Parts in memory and the parts' builder's block. No function in sight. -/
import Derived.Test.YthoemdibbldndaaGreatDoorItems
set_option linter.unusedVariables false
set_option linter.unusedSimpArgs false
namespace Go.Proofs.YthoemdibbldndaaGreatDoor
open Go.RowKit

theorem info_part : (Tryz.prog.info? 64).map (fun i => (i.zero, i.size, i.bytes)) = some (some (.agg #[.bool false, .string ⟨#[]⟩, .string ⟨#[]⟩]), 3, 40) := by kernel_rfl
def cellsP (f : List St.Pt) : List Value := f.flatMap fun x => [.bool x.1, .string ⟨x.2.1.toArray⟩, .string ⟨x.2.2.toArray⟩]
theorem cellsP_app (f g : List St.Pt) : cellsP (f ++ g) = cellsP f ++ cellsP g := by simp [cellsP]
def PV (w : World) (B pb : Nat) (d : ByteArray) (s : St.PS) : Prop :=
  B ≤ pb ∧ ∃ v, w.heap[pb]? = some (Obj.cells #[.string d, .int .i64 s.2, v] 161 (0, 0)) ∧ w.ownsRow B 64 3 v s.1.length (cellsP s.1)
theorem PV.und {a c : World} {B pb : Nat} {d : ByteArray} {s : St.PS} (h : PV a B pb d s) (u : Und a c) : PV c B pb d s := by
  obtain ⟨h0, v, h1, h2⟩ := h
  exact ⟨h0, v, (u.below.block pb (lt_of_heap h1)).trans h1, own_und u h2⟩
def ptT : List TypeId := [161, 64]
theorem bytes_ext (a b : ByteArray) (h : a.data.toList = b.data.toList) : a = b := by
  rw [← ba_eta a, ← ba_eta b, h]
theorem cut_list (d : ByteArray) (a b : Nat) : (d.extract a b).data.toList = St.cutL d.data.toList a b := by
  unfold St.cutL
  simp [List.drop_take]
theorem cut_arr (d : ByteArray) (a b : Nat) : (⟨(St.cutL d.data.toList a b).toArray⟩ : ByteArray) = d.extract a b := by rw [← cut_list, ba_eta]
end Go.Proofs.YthoemdibbldndaaGreatDoor
