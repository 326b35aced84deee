/- What resource's element gives: St.resL, behind the builder's limits; the contract of escape. No condition. -/
import Derived.Test.YtpahkhmheikebaaGreatDoorBuildGN
import Derived.Test.YtpahkhmheikebaaGreatDoorResPl
import Derived.Test.YtpahkhmheikebaaGreatDoorShelf
namespace Go.Proofs.YtpahkhmheikebaaGreatDoor
open Go.RowKit

/-- The reader's later cells: where the next element begins, where the last ended. -/
def mo2 (d : Nat) : List Value := [.int .i64 d, .int .i64 d]
theorem BV.mo3 {w : World} {B b : Nat} {v0 v1 v2 x y u : Value} {its : List St.It} {tx : List UInt8} {cuts : List Nat} (h : BV [x, y] w B b v0 v1 v2 its tx cuts) : BV [u, y] (w.setCell ⟨b, 3, none⟩ u) B b v0 v1 v2 its tx cuts := by
  obtain ⟨h0, h1, h2, h3, h4⟩ := h
  exact ⟨h0, heap_setCell_same w b 3 _ _ u h1, own_set h2 (own_ne h2 h1 (by decide)), own_set h3 (own_ne h3 h1 (by decide)), own_set h4 (own_ne h4 h1 (by decide))⟩
theorem BV.mo4 {w : World} {B b : Nat} {v0 v1 v2 x y u : Value} {its : List St.It} {tx : List UInt8} {cuts : List Nat} (h : BV [x, y] w B b v0 v1 v2 its tx cuts) : BV [x, u] (w.setCell ⟨b, 4, none⟩ u) B b v0 v1 v2 its tx cuts := by
  obtain ⟨h0, h1, h2, h3, h4⟩ := h
  exact ⟨h0, heap_setCell_same w b 4 _ _ u h1, own_set h2 (own_ne h2 h1 (by decide)), own_set h3 (own_ne h3 h1 (by decide)), own_set h4 (own_ne h4 h1 (by decide))⟩
theorem BAt.mo {w : World} {B b d : Nat} {its : List St.It} {tx : List UInt8} {cuts : List Nat} (h : BAt (mo2 d) w B b its tx cuts) (n : Nat) (m m2 : Int) (hm : m = n) (hm2 : m2 = n) : BAt (mo2 n) ((w.setCell ⟨b, 3, none⟩ (.int .i64 m)).setCell ⟨b, 4, none⟩ (.int .i64 m2)) B b its tx cuts := by
  subst hm hm2
  obtain ⟨v0, v1, v2, h⟩ := h
  exact ⟨v0, v1, v2, (BV.mo4 (BV.mo3 h))⟩
theorem BAt.mo' {w : World} {B b d : Nat} {its : List St.It} {tx : List UInt8} {cuts : List Nat} (h : BAt (mo2 d) w B b its tx cuts) (n : Nat) (m m2 : Int) (hm : m = n) (hm2 : m2 = n) : BAt (mo2 n) ((w.setCell ⟨b, 4, none⟩ (.int .i64 m)).setCell ⟨b, 3, none⟩ (.int .i64 m2)) B b its tx cuts := by
  subst hm hm2
  obtain ⟨v0, v1, v2, h⟩ := h
  exact ⟨v0, v1, v2, (BV.mo3 (BV.mo4 h))⟩
theorem BAt.cells {mo : List Value} {w : World} {B b : Nat} {its : List St.It} {tx : List UInt8} {cuts : List Nat} (h : BAt mo w B b its tx cuts) : ∃ v0 v1 v2, w.heap[b]? = some (Obj.cells ⟨v0 :: v1 :: v2 :: mo⟩ rdT (0, 0)) := by
  obtain ⟨v0, v1, v2, h⟩ := h; exact ⟨v0, v1, v2, h.2.1⟩
theorem BAt.at {d : Nat} {w : World} {B b : Nat} {its : List St.It} {tx : List UInt8} {cuts : List Nat} (h : BAt (mo2 d) w B b its tx cuts) : w.cell? ⟨b, 3, none⟩ = some (.int .i64 d) ∧ w.cell? ⟨b, 4, none⟩ = some (.int .i64 d) ∧ w.frozen? ⟨b, 3, none⟩ = false ∧ w.frozen? ⟨b, 4, none⟩ = false ∧ b < w.heap.size ∧ B ≤ b := by
  obtain ⟨v0, v1, v2, h⟩ := h
  have hb := h.2.1
  exact ⟨Lib.cell_of_heap hb 3, Lib.cell_of_heap hb 4, Lib.frozen_of_heap hb 3, Lib.frozen_of_heap hb 4, lt_of_heap hb, h.1⟩

def RElEnd (w : World) (B b : Nat) (its : List St.It) (tx : List UInt8) (cuts : List Nat) (d : Nat) (l : List UInt8) (a : Nat) (e : Ending) (w' : World) : Prop :=
  Below B w w' ∧ match St.resL l with
    | none => e = .returned (.tuple #[.int .i64 a, .int .i64 2])
    | some (k, t, n) => if k = 0 then e = .returned (.tuple #[.int .i64 ((a + n : Nat) : Int), .int .i64 0]) ∧ BAt (mo2 d) w' B b its tx cuts else
        if 512 < (St.addI (its ++ St.txt tx) (k, t, 0)).length ∨ 1024 ≤ cuts.length then e = .returned (.tuple #[.int .i64 a, .int .i64 3]) else
        e = .returned (.tuple #[.int .i64 ((a + n : Nat) : Int), .int .i64 0]) ∧ ∃ its' tx', BAt (mo2 (a + n)) w' B b its' tx' (cuts ++ [d]) ∧ St.NoTxt its' ∧ its' ++ St.txt tx' = St.addI (its ++ St.txt tx) (k, t, 0) ∧ tx'.length ≤ cuts.length + 1
section
variable {w : World} {B b : Nat} {its : List St.It} {tx : List UInt8} {cuts : List Nat} {d : Nat} {l : List UInt8} {a : Nat} {w' : World}
theorem rel_err (h : St.resL l = none) (hb : Below B w w') : RElEnd w B b its tx cuts d l a (.returned (.tuple #[.int .i64 a, .int .i64 2])) w' := by
  refine ⟨hb, ?_⟩; rw [h]
theorem rel_cont {n : Nat} (h : St.resL l = some (0, [], n)) (hb : Below B w w') (hB : BAt (mo2 d) w' B b its tx cuts) (m : Int) (hm : m = ((a + n : Nat) : Int)) : RElEnd w B b its tx cuts d l a (.returned (.tuple #[.int .i64 m, .int .i64 0])) w' := by
  subst hm
  refine ⟨hb, ?_⟩; rw [h]; exact ⟨rfl, hB⟩
theorem rel_full {n : Nat} {c : UInt8} (h : St.resL l = some (1, [c], n)) (hN : St.NoTxt its) (hf : St.fullB its.length tx.length cuts.length true = true) (hb : Below B w w') :
    RElEnd w B b its tx cuts d l a (.returned (.tuple #[.int .i64 a, .int .i64 3])) w' := by
  refine ⟨hb, ?_⟩; rw [h]; simp only
  rw [if_neg (by decide), if_pos ((St.full_byte hN c cuts.length).2 hf)]
  trivial
theorem rel_byte {n : Nat} {c : UInt8} (h : St.resL l = some (1, [c], n)) (hN : St.NoTxt its) (hf : St.fullB its.length tx.length cuts.length true = false) (hb : Below B w w')
    (hB : BAt (mo2 (a + n)) w' B b its (tx ++ [c]) (cuts ++ [d])) (ht : tx.length ≤ cuts.length) (m : Int) (hm : m = ((a + n : Nat) : Int)) : RElEnd w B b its tx cuts d l a (.returned (.tuple #[.int .i64 m, .int .i64 0])) w' := by
  refine ⟨hb, ?_⟩; rw [h]; simp only
  rw [if_neg (by decide), if_neg (fun h2 => by rw [(St.full_byte hN c cuts.length).1 h2] at hf; cases hf), hm]
  exact ⟨rfl, its, tx ++ [c], hB, hN, (St.add_byte hN c).symm, by simp; omega⟩
theorem rel_full5 {n : Nat} {t : List UInt8} (h : St.resL l = some (5, t, n)) (hf : St.fullB its.length tx.length cuts.length false = true) (hb : Below B w w') :
    RElEnd w B b its tx cuts d l a (.returned (.tuple #[.int .i64 a, .int .i64 3])) w' := by
  refine ⟨hb, ?_⟩; rw [h]; simp only
  rw [if_neg (by decide), if_pos ((St.full_item 5 t cuts.length (by decide)).2 hf)]
  trivial
theorem rel_item {n : Nat} {t : List UInt8} (h : St.resL l = some (5, t, n)) (hf : St.fullB its.length tx.length cuts.length false = false) (hb : Below B w w')
    (hB : BAt (mo2 (a + n)) w' B b (its ++ St.txt tx ++ [(5, t, 0)]) [] (cuts ++ [d])) (m : Int) (hm : m = ((a + n : Nat) : Int)) : RElEnd w B b its tx cuts d l a (.returned (.tuple #[.int .i64 m, .int .i64 0])) w' := by
  refine ⟨hb, ?_⟩; rw [h]; simp only
  rw [if_neg (by decide), if_neg (fun h2 => by rw [(St.full_item 5 t cuts.length (by decide)).1 h2] at hf; cases hf), hm]
  exact ⟨rfl, _, [], hB, St.noTxt_snoc _ 5 t 0 (by decide), by rw [St.add_item 5 t (by decide)]; simp [St.txt], by simp⟩
end

/-- What escape gives. -/
def escV (d : UInt8) : Value := match St.escL d with
  | some c => .tuple #[.int .u8 (c.toNat : Int), .bool true]
  | none => .tuple #[.int .u8 0, .bool false]
theorem escape_any (d : UInt8) (w : World) : Calls Tryz.prog 72 #[.int .u8 (d.toNat : Int)] w fun e w' => e = .returned (escV d) ∧ w = w' := by
  have hd := d.toNat_lt
  rcases (show d.toNat = 110 ∨ d.toNat = 116 ∨ d.toNat = 115 ∨ d.toNat = 114 ∨ d.toNat = 92 ∨ d.toNat = 123 ∨ (d.toNat ≠ 110 ∧ d.toNat ≠ 116 ∧ d.toNat ≠ 115 ∧ d.toNat ≠ 114 ∧ d.toNat ≠ 92 ∧ d.toNat ≠ 123) by omega) with h | h | h | h | h | h | ⟨h1, h2, h3, h4, h5, h6⟩
  · obtain rfl : d = (110 : UInt8) := by apply UInt8.toNat_inj.1; simpa using h
    have hv : escV 110 = .tuple #[.int .u8 10, .bool true] := rfl
    rw [hv]
    show Calls Tryz.prog 72 #[.int .u8 110] w _
    clear hv h hd
    go_enter Tryz.func72, Tryz.ntmps72
    go_wp2
    go_ret2
    exact ⟨rfl, rfl⟩
  · obtain rfl : d = (116 : UInt8) := by apply UInt8.toNat_inj.1; simpa using h
    have hv : escV 116 = .tuple #[.int .u8 9, .bool true] := rfl
    rw [hv]
    show Calls Tryz.prog 72 #[.int .u8 116] w _
    clear hv h hd
    go_enter Tryz.func72, Tryz.ntmps72
    go_wp2
    go_ret2
    exact ⟨rfl, rfl⟩
  · obtain rfl : d = (115 : UInt8) := by apply UInt8.toNat_inj.1; simpa using h
    have hv : escV 115 = .tuple #[.int .u8 32, .bool true] := rfl
    rw [hv]
    show Calls Tryz.prog 72 #[.int .u8 115] w _
    clear hv h hd
    go_enter Tryz.func72, Tryz.ntmps72
    go_wp2
    go_ret2
    exact ⟨rfl, rfl⟩
  · obtain rfl : d = (114 : UInt8) := by apply UInt8.toNat_inj.1; simpa using h
    have hv : escV 114 = .tuple #[.int .u8 13, .bool true] := rfl
    rw [hv]
    show Calls Tryz.prog 72 #[.int .u8 114] w _
    clear hv h hd
    go_enter Tryz.func72, Tryz.ntmps72
    go_wp2
    go_ret2
    exact ⟨rfl, rfl⟩
  · obtain rfl : d = (92 : UInt8) := by apply UInt8.toNat_inj.1; simpa using h
    have hv : escV 92 = .tuple #[.int .u8 92, .bool true] := rfl
    rw [hv]
    show Calls Tryz.prog 72 #[.int .u8 92] w _
    clear hv h hd
    go_enter Tryz.func72, Tryz.ntmps72
    go_wp2
    go_ret2
    exact ⟨rfl, rfl⟩
  · obtain rfl : d = (123 : UInt8) := by apply UInt8.toNat_inj.1; simpa using h
    have hv : escV 123 = .tuple #[.int .u8 123, .bool true] := rfl
    rw [hv]
    show Calls Tryz.prog 72 #[.int .u8 123] w _
    clear hv h hd
    go_enter Tryz.func72, Tryz.ntmps72
    go_wp2
    go_ret2
    exact ⟨rfl, rfl⟩
  · have hv : escV d = .tuple #[.int .u8 0, .bool false] := by unfold escV St.escL; simp [h1, h2, h3, h4, h5, h6]
    rw [hv]
    have e1 : ((d.toNat : Int) == 110) = false := by simp; omega
    have e2 : ((d.toNat : Int) == 116) = false := by simp; omega
    have e3 : ((d.toNat : Int) == 115) = false := by simp; omega
    have e4 : ((d.toNat : Int) == 114) = false := by simp; omega
    have e5 : ((d.toNat : Int) == 92) = false := by simp; omega
    have e6 : ((d.toNat : Int) == 123) = false := by simp; omega
    clear hv h1 h2 h3 h4 h5 h6 hd
    go_enter Tryz.func72, Tryz.ntmps72
    go_wp2
    go_ret2
    exact ⟨rfl, rfl⟩
end Go.Proofs.YtpahkhmheikebaaGreatDoor
