/- Items and offsets in memory, and rows of a call's own that hold them. No function in sight. -/
import Derived.Test.YthoemdibbldndaaGreatDoorTKept
import Derived.Test.YthoemdibbldndaaGreatDoorBas
import Derived.Lib.Builder
import Derived.Lib.UnsafeStr
import Derived.Laws.BytesArg
import Derived.Laws.Rows
import Derived.OwnWalk
import Derived.Outline
import Derived.IntWalk
import Derived.WalkSpells
import Derived.Lib.Strings
set_option linter.unusedVariables false
set_option linter.unusedSimpArgs false
namespace Go.Proofs.YthoemdibbldndaaGreatDoor
open Go.RowKit

theorem info_item : (Tryz.prog.info? 36).map (fun i => (i.zero, i.size, i.bytes)) = some (some (.agg #[.int .i64 0, .string ⟨#[]⟩, .int .i64 0]), 3, 32) := by kernel_rfl
theorem info_byte : (Tryz.prog.info? 5).map (fun i => (i.zero, i.size, i.bytes)) = some (some (.int .u8 0), 1, 1) := by kernel_rfl
theorem info_int : (Tryz.prog.info? 3).map (fun i => (i.zero, i.size, i.bytes)) = some (some (.int .i64 0), 1, 8) := by kernel_rfl

/-- The cells of items. -/
def cellsIt (f : List St.It) : List Value := f.flatMap fun x => [.int .i64 x.1, .string ⟨x.2.1.toArray⟩, .int .i64 x.2.2]
theorem cellsIt_snoc (f : List St.It) (x : St.It) : cellsIt (f ++ [x]) = cellsIt f ++ [.int .i64 x.1, .string ⟨x.2.1.toArray⟩, .int .i64 x.2.2] := by simp [cellsIt]
def cellsN (l : List Nat) : List Value := l.map fun (c : Nat) => .int .i64 c
theorem cellsN_snoc (l : List Nat) (c : Nat) : cellsN (l ++ [c]) = cellsN l ++ [.int .i64 c] := by simp [cellsN]
theorem bytes_snoc (l : List UInt8) (c : UInt8) : Lib.byteCells (l ++ [c]) = Lib.byteCells l ++ [.int .u8 c.toNat] := by simp [Lib.byteCells]

theorem own_ne {w : World} {B e T size n b : Nat} {v : Value} {xs : List Value} {cs : Array Value} {fr : Nat × Nat} (h : w.ownsRow B e size v n xs) (hb : w.heap[b]? = some (Obj.cells cs T fr)) (hT : T ≠ e) : v.ownBlock ≠ some b := by
  rcases h.2 with ⟨rfl, _⟩ | ⟨g, cap, cur, rfl, _, hg, _⟩
  · simp [Value.ownBlock]
  · intro h
    simp only [Value.ownBlock, Option.some.injEq] at h
    subst h
    rw [hg] at hb
    simp only [Option.some.injEq, Obj.cells.injEq] at hb
    exact hT hb.2.1.symm
theorem own_set {w : World} {B e size n b i : Nat} {v u : Value} {xs : List Value} (h : w.ownsRow B e size v n xs) (hb : v.ownBlock ≠ some b) : (w.setCell ⟨b, i, none⟩ u).ownsRow B e size v n xs :=
  h.kept (gb_set w ⟨b, i, none⟩ u) (Or.inr hb)
theorem side1b (w2 : World) (x : Value) (e : TypeId) : ∀ j u, [x][j]? = some u → (w2.alloc (.cells #[x] e)).cell? ((⟨w2.heap.size, 0, none⟩ : Addr).add j) = some u := by
  intro j u hj
  match j, hj with
  | 0, hj => simp at hj; subst hj; simp [Addr.add]
  | j + 1, hj => simp at hj
theorem side1c (w2 : World) (x : Value) (e : TypeId) (b : Nat) (hb : b = w2.heap.size) : ∀ j u, [x][j]? = some u → (w2.alloc (.cells #[x] e)).cell? ((⟨b, 0, none⟩ : Addr).add j) = some u := by
  subst hb; exact side1b w2 x e
theorem side3b (w2 : World) (x y z : Value) (e : TypeId) (b : Nat) (hb : b = w2.heap.size) : ∀ j u, [x, y, z][j]? = some u → (w2.alloc (.cells #[x, y, z] e)).cell? ((⟨b, 0, none⟩ : Addr).add j) = some u := by
  subst hb
  intro j u hj
  match j, hj with
  | 0, hj => simp at hj; subst hj; simp [Addr.add]
  | 1, hj => simp at hj; subst hj; simp [Addr.add]
  | 2, hj => simp at hj; subst hj; simp [Addr.add]
  | j + 3, hj => simp at hj
theorem item_one (k i : Int) (s : ByteArray) : ∀ u ∈ [Value.int .i64 k, Value.string s, Value.int .i64 i], u.oneCell' = true := by
  intro u hu
  simp at hu
  rcases hu with rfl | rfl | rfl <;> rfl
theorem ba_eta (s : ByteArray) : (⟨s.data.toList.toArray⟩ : ByteArray) = s := by cases s; simp
/-- Items in memory. -/
def ItemsAt (w : World) (A : Option Addr) (f : List St.It) : Prop :=
  f.length > 0 → ∃ b off, A = some ⟨b, off, none⟩ ∧ b < w.heap.size ∧ ∀ j (h : j < f.length), w.cell? ⟨b, off + j * 3, none⟩ = some (.int .i64 f[j].1) ∧ w.cell? ⟨b, off + j * 3 + 1, none⟩ = some (.string ⟨f[j].2.1.toArray⟩) ∧ w.cell? ⟨b, off + j * 3 + 2, none⟩ = some (.int .i64 f[j].2.2)
theorem ItemsAt.und {w w' : World} {A : Option Addr} {f : List St.It} (h : ItemsAt w A f) (u : Und w w') : ItemsAt w' A f := by
  intro h0
  obtain ⟨b, off, rfl, hb, hc⟩ := h h0
  refine ⟨b, off, rfl, Nat.lt_of_lt_of_le hb u.size, fun j hj => ?_⟩
  obtain ⟨c0, c1, c2⟩ := hc j hj
  exact ⟨(u.cell hb).trans c0, (u.cell hb).trans c1, (u.cell hb).trans c2⟩
theorem cellsIt_at (f : List St.It) (j : Nat) (h : j < f.length) : (cellsIt f)[j * 3]? = some (.int .i64 f[j].1) ∧ (cellsIt f)[j * 3 + 1]? = some (.string ⟨f[j].2.1.toArray⟩) ∧ (cellsIt f)[j * 3 + 2]? = some (.int .i64 f[j].2.2) := by
  induction f generalizing j with
  | nil => simp at h
  | cons x f ih =>
    match j, h with
    | 0, _ => exact ⟨rfl, rfl, rfl⟩
    | j + 1, h =>
      obtain ⟨a, b, c⟩ := ih j (by simpa using h)
      have e : (j + 1) * 3 = j * 3 + 3 := by omega
      rw [e]
      exact ⟨a, b, c⟩
theorem items_own {w : World} {B n c : Nat} {A : Option Addr} {f : List St.It} (h : w.ownsRow B 36 3 (.slice A n c) n (cellsIt f)) (hn : f.length = n) : ItemsAt w A f := by
  intro h0
  obtain ⟨g, rfl, _, hg, hc⟩ := own_cell h (by omega)
  refine ⟨g, 0, rfl, hg, fun j hj => ?_⟩
  obtain ⟨a, b, c⟩ := cellsIt_at f j hj
  rw [Nat.zero_add]
  exact ⟨hc _ _ a, hc _ _ b, hc _ _ c⟩
/-- Offsets in memory. -/
def NatsAt (w : World) (A : Option Addr) (l : List Nat) : Prop := l.length > 0 → ∃ b off, A = some ⟨b, off, none⟩ ∧ b < w.heap.size ∧ ∀ j (h : j < l.length), w.cell? ⟨b, off + j, none⟩ = some (.int .i64 (l[j] : Int))
theorem NatsAt.und {w w' : World} {A : Option Addr} {f : List Nat} (h : NatsAt w A f) (u : Und w w') : NatsAt w' A f := by
  intro h0
  obtain ⟨b, off, rfl, hb, hc⟩ := h h0
  exact ⟨b, off, rfl, Nat.lt_of_lt_of_le hb u.size, fun j hj => (u.cell hb).trans (hc j hj)⟩
theorem nats_own {w : World} {B n c : Nat} {A : Option Addr} {l : List Nat} (h : w.ownsRow B 3 1 (.slice A n c) n (cellsN l)) (hn : l.length = n) : NatsAt w A l := by
  intro h0
  obtain ⟨g, rfl, _, hg, hc⟩ := own_cell h (by omega)
  refine ⟨g, 0, rfl, hg, fun j hj => ?_⟩
  rw [Nat.zero_add]
  exact hc j _ (by simp [cellsN, hj])

end Go.Proofs.YthoemdibbldndaaGreatDoor
