/- The contract of sheet's element: what it gives is St.sheetL, behind the builder's limits. Condition: the text is no longer than a text can be. -/
import Derived.Test.YtdchoobekngehaaGreatDoorBuilderN
import Derived.Test.YtdchoobekngehaaGreatDoorElem
import Derived.Test.YtdchoobekngehaaGreatDoorShelf
namespace Go.Proofs.YtdchoobekngehaaGreatDoor
open Go.RowKit


theorem hasPrefix0 (s t : ByteArray) (w : World) (hs : s.size ≤ 9223372036854775807) (ht : t.size ≤ 9223372036854775807) : Calls Tryz.prog 82 #[.string s, .string t] w fun e w' => e = .returned (.bool (preB t s)) ∧ w = w' := by
  by_cases h : t.size ≤ s.size
  · have z : (t.size : Int) ≤ (s.size : Int) := by omega
    go_enter Tryz.func82, Tryz.ntmps82
    go_wp2
    go_ret
    refine ⟨ret_bool ?_, rfl⟩
    unfold preB
    rw [Lib.toList_data, Lib.toList_data, Lib.extract_data, ← St.pre_take]
    simp
  · have z : ¬ (t.size : Int) ≤ (s.size : Int) := by omega
    have H := hid h
    clear h
    go_enter Tryz.func82, Tryz.ntmps82
    go_wp2
    go_ret
    have hz : preB t s = false := St.pre_long _ _ (by have := H.out; simp; omega)
    exact ⟨ret_bool hz.symm, rfl⟩
theorem hasPrefix_any (s t : ByteArray) (w : World) (hs : s.size ≤ 9223372036854775807) (ht : t.size ≤ 9223372036854775807) : Calls Tryz.prog 68 #[.string s, .string t] w fun e w' => e = .returned (.bool (preB t s)) ∧ w = w' := by
  have H := hid (hasPrefix0 s t w hs ht)
  go_enter Tryz.func68, Tryz.ntmps68
  go_wp2_with fail
  refine H.out.mono ?_
  rintro e w' ⟨rfl, rfl⟩
  go_wp2
  go_ret
  exact ⟨rfl, rfl⟩

def ElEnd (w : World) (B b : Nat) (its : List St.It) (tx : List UInt8) (cuts : List Nat) (l : List UInt8) (a : Nat) (e : Ending) (w' : World) : Prop :=
  Below B w w' ∧ match St.sheetL l with
    | none => e = .returned (.tuple #[.int .i64 a, .int .i64 2])
    | some (k, t, n) => if 512 < (St.addI (its ++ St.txt tx) (k, t, 0)).length ∨ 1024 ≤ cuts.length then e = .returned (.tuple #[.int .i64 a, .int .i64 3]) else
        e = .returned (.tuple #[.int .i64 ((a + n : Nat) : Int), .int .i64 0]) ∧ ∃ its' tx', BAt w' B b its' tx' (cuts ++ [a]) ∧ St.NoTxt its' ∧ its' ++ St.txt tx' = St.addI (its ++ St.txt tx) (k, t, 0) ∧ tx'.length ≤ cuts.length + 1
theorem el_err {w : World} {B b : Nat} {its : List St.It} {tx : List UInt8} {cuts : List Nat} {l : List UInt8} {a : Nat} {w' : World} (h : St.sheetL l = none) (hb : Below B w w') : ElEnd w B b its tx cuts l a (.returned (.tuple #[.int .i64 a, .int .i64 2])) w' := by
  refine ⟨hb, ?_⟩; rw [h]
theorem el_full {w : World} {B b : Nat} {its : List St.It} {tx : List UInt8} {cuts : List Nat} {l : List UInt8} {a n : Nat} {c : UInt8} {w' : World} (h : St.sheetL l = some (1, [c], n)) (hN : St.NoTxt its) (hf : St.fullB its.length tx.length cuts.length true = true) (hb : Below B w w') :
    ElEnd w B b its tx cuts l a (.returned (.tuple #[.int .i64 a, .int .i64 3])) w' := by
  refine ⟨hb, ?_⟩; rw [h]; simp only
  rw [if_pos ((St.full_byte hN c cuts.length).2 hf)]
  trivial
theorem el_byte {w : World} {B b : Nat} {its : List St.It} {tx : List UInt8} {cuts : List Nat} {l : List UInt8} {a n : Nat} {c : UInt8} {w' : World} (h : St.sheetL l = some (1, [c], n)) (hN : St.NoTxt its) (hf : St.fullB its.length tx.length cuts.length true = false) (hb : Below B w w')
    (hB : BAt w' B b its (tx ++ [c]) (cuts ++ [a])) (ht : tx.length ≤ cuts.length) (m : Int) (hm : m = ((a + n : Nat) : Int)) : ElEnd w B b its tx cuts l a (.returned (.tuple #[.int .i64 m, .int .i64 0])) w' := by
  refine ⟨hb, ?_⟩; rw [h]; simp only
  rw [if_neg (fun h2 => by rw [(St.full_byte hN c cuts.length).1 h2] at hf; cases hf), hm]
  exact ⟨rfl, its, tx ++ [c], hB, hN, (St.add_byte hN c).symm, by simp; omega⟩
theorem el_full5 {w : World} {B b : Nat} {its : List St.It} {tx : List UInt8} {cuts : List Nat} {l : List UInt8} {a n : Nat} {t : List UInt8} {w' : World} (h : St.sheetL l = some (5, t, n)) (hf : St.fullB its.length tx.length cuts.length false = true) (hb : Below B w w') :
    ElEnd w B b its tx cuts l a (.returned (.tuple #[.int .i64 a, .int .i64 3])) w' := by
  refine ⟨hb, ?_⟩; rw [h]; simp only
  rw [if_pos ((St.full_item 5 t cuts.length (by decide)).2 hf)]
  trivial
theorem el_item {w : World} {B b : Nat} {its : List St.It} {tx : List UInt8} {cuts : List Nat} {l : List UInt8} {a n : Nat} {t : List UInt8} {w' : World} (h : St.sheetL l = some (5, t, n)) (hf : St.fullB its.length tx.length cuts.length false = false) (hb : Below B w w')
    (hB : BAt w' B b (its ++ St.txt tx ++ [(5, t, 0)]) [] (cuts ++ [a])) (m : Int) (hm : m = ((a + n : Nat) : Int)) : ElEnd w B b its tx cuts l a (.returned (.tuple #[.int .i64 m, .int .i64 0])) w' := by
  refine ⟨hb, ?_⟩; rw [h]; simp only
  rw [if_neg (fun h2 => by rw [(St.full_item 5 t cuts.length (by decide)).1 h2] at hf; cases hf), hm]
  exact ⟨rfl, _, [], hB, St.noTxt_snoc _ 5 t 0 (by decide), by rw [St.add_item 5 t (by decide)]; simp [St.txt], by simp⟩

end Go.Proofs.YtdchoobekngehaaGreatDoor
