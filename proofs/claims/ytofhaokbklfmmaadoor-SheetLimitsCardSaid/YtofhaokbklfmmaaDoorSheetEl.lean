/- The contract of sheet's element: what it gives is St.sheetL, behind the builder's limits. Condition: the text is no longer than a text can be. -/
import Derived.Test.YtofhaokbklfmmaaDoorBuilderN
import Derived.Test.YtofhaokbklfmmaaDoorShelf
namespace Go.Proofs.YtofhaokbklfmmaaDoor
open Go.RowKit

namespace St
theorem index_take : ∀ l : List UInt8, Lib.indexByte l 125 = if (l.takeWhile (fun c => decide (c.toNat ≠ 125))).length < l.length then ((l.takeWhile (fun c => decide (c.toNat ≠ 125))).length : Int) else -1
  | [] => rfl
  | c :: l => by
    unfold Lib.indexByte
    by_cases h : c.toNat = 125
    · have h2 : c = 125 := by apply UInt8.toNat_inj.1; simpa using h
      subst h2
      simp
    · have h2 : ¬ c = 125 := fun e => h (by rw [e]; rfl)
      have h3 : (c == 125) = false := by simpa using h2
      rw [h3, index_take l, List.takeWhile_cons_of_pos (by simpa using h)]
      simp only [List.length_cons, Bool.false_eq_true, if_false]
      by_cases h4 : (l.takeWhile (fun c => decide (c.toNat ≠ 125))).length < l.length
      · rw [if_pos h4, if_neg (by simp <;> omega), if_pos (by omega)]; try simp
      · rw [if_neg h4, if_pos (by simp), if_neg (by omega)]
theorem sheet_34 {c : UInt8} {r : List UInt8} (h : c.toNat = 34) : sheetL (c :: r) = if ([34, 34] : List UInt8).isPrefixOf (c :: r) then some (1, [c], 2) else none := by
  have h2 : c = 34 := by apply UInt8.toNat_inj.1; simpa using h
  subst h2; rfl
theorem sheet_123 {c : UInt8} {r : List UInt8} (h : c.toNat = 123) : sheetL (c :: r) = if ([123, 123] : List UInt8).isPrefixOf (c :: r) then some (1, [c], 2) else (slotL (c :: r)).map fun x => (5, x.1, x.2) := by
  have h2 : c = 123 := by apply UInt8.toNat_inj.1; simpa using h
  subst h2; rfl
theorem sheet_else {c : UInt8} {r : List UInt8} (h : c.toNat ≠ 34) (h' : c.toNat ≠ 123) : sheetL (c :: r) = some (1, [c], 1) := by
  simp [sheetL, h, h']
theorem pre2_ne {c d : UInt8} {r : List UInt8} (h : c ≠ d) : ([d, d] : List UInt8).isPrefixOf (c :: r) = false := by
  simp [List.isPrefixOf]
  intro e
  exact absurd e.symm h
/-- What a placeholder's end and name say. -/
theorem slot_of {c : UInt8} {r : List UInt8} (h : c.toNat = 123) : (Lib.indexByte (c :: r) 125 = -1 ∧ slotL (c :: r) = none) ∨ ∃ n : Nat, Lib.indexByte (c :: r) 125 = ((n + 1 : Nat) : Int) ∧ n + 1 < (c :: r).length ∧ r.take n = r.takeWhile (fun c => decide (c.toNat ≠ 125)) ∧
    slotL (c :: r) = if isNameL (r.take n) = true then some (r.take n, n + 2) else none := by
  rw [index_take, List.takeWhile_cons_of_pos (by simp; omega)]
  generalize hn : r.takeWhile (fun c => decide (c.toNat ≠ 125)) = t
  have ht : r.take t.length = t := by rw [← hn]; exact (List.prefix_iff_eq_take.1 (List.takeWhile_prefix _)).symm
  have hs : slotL (c :: r) = if decide (t.length + 1 < (c :: r).length) && isNameL t then some (t, t.length + 2) else none := by
    unfold slotL; simp only [List.drop_succ_cons, List.drop_zero, hn]
  rw [hs]
  by_cases h2 : t.length + 1 < (c :: r).length
  · right
    refine ⟨t.length, by rw [List.length_cons, if_pos h2], h2, ht, ?_⟩
    rw [ht, decide_eq_true h2]; rfl
  · left
    refine ⟨by rw [List.length_cons, if_neg h2], ?_⟩
    rw [decide_eq_false h2]; rfl
end St

/-- Does t begin s? -/
def preB (t s : ByteArray) : Bool := t.data.toList.isPrefixOf s.data.toList
theorem hasPrefix0 (s t : ByteArray) (w : World) (hs : s.size ≤ 9223372036854775807) (ht : t.size ≤ 9223372036854775807) : Calls Tryd.prog 82 #[.string s, .string t] w fun e w' => e = .returned (.bool (preB t s)) ∧ w = w' := by
  by_cases h : t.size ≤ s.size
  · have z : (t.size : Int) ≤ (s.size : Int) := by omega
    go_enter Tryd.func82, Tryd.ntmps82
    go_wp2
    go_ret
    refine ⟨ret_bool ?_, rfl⟩
    unfold preB
    rw [Lib.toList_data, Lib.toList_data, Lib.extract_data, ← St.pre_take]
    simp
  · have z : ¬ (t.size : Int) ≤ (s.size : Int) := by omega
    have H := hid h
    clear h
    go_enter Tryd.func82, Tryd.ntmps82
    go_wp2
    go_ret
    have hz : preB t s = false := St.pre_long _ _ (by have := H.out; simp; omega)
    exact ⟨ret_bool hz.symm, rfl⟩
theorem hasPrefix_any (s t : ByteArray) (w : World) (hs : s.size ≤ 9223372036854775807) (ht : t.size ≤ 9223372036854775807) : Calls Tryd.prog 69 #[.string s, .string t] w fun e w' => e = .returned (.bool (preB t s)) ∧ w = w' := by
  have H := hid (hasPrefix0 s t w hs ht)
  go_enter Tryd.func69, Tryd.ntmps69
  go_wp2_with fail
  refine H.out.mono ?_
  rintro e w' ⟨rfl, rfl⟩
  go_wp2
  go_ret
  exact ⟨rfl, rfl⟩

def ElEnd (w : World) (B b : Nat) (its : List St.It) (tx : List UInt8) (cuts : List Nat) (l : List UInt8) (a : Nat) (e : Ending) (w' : World) : Prop :=
  Below B w w' ∧ match St.sheetL l with
    | none => e = .returned (.tuple #[.int .i64 a, .int .i64 2])
    | some (k, t, n) => if 512 < (St.addI (its ++ St.txt tx) (k, t, 0)).length ∨ 1024 ≤ cuts.length then e = .returned (.tuple #[.int .i64 a, .int .i64 3]) else
        e = .returned (.tuple #[.int .i64 ((a + n : Nat) : Int), .int .i64 0]) ∧ ∃ its' tx', BAt w' B b its' tx' (cuts ++ [a]) ∧ St.NoTxt its' ∧ its' ++ St.txt tx' = St.addI (its ++ St.txt tx) (k, t, 0) ∧ tx'.length ≤ cuts.length + 1
theorem el_err {w : World} {B b : Nat} {its : List St.It} {tx : List UInt8} {cuts : List Nat} {l : List UInt8} {a : Nat} {w' : World} (h : St.sheetL l = none) (hb : Below B w w') : ElEnd w B b its tx cuts l a (.returned (.tuple #[.int .i64 a, .int .i64 2])) w' := by
  refine ⟨hb, ?_⟩; rw [h]
theorem el_full {w : World} {B b : Nat} {its : List St.It} {tx : List UInt8} {cuts : List Nat} {l : List UInt8} {a n : Nat} {c : UInt8} {w' : World} (h : St.sheetL l = some (1, [c], n)) (hN : St.NoTxt its) (hf : St.fullB its.length tx.length cuts.length true = true) (hb : Below B w w') :
    ElEnd w B b its tx cuts l a (.returned (.tuple #[.int .i64 a, .int .i64 3])) w' := by
  refine ⟨hb, ?_⟩; rw [h]; simp only
  rw [if_pos ((St.full_byte hN c cuts.length).2 hf)]
  trivial
theorem el_byte {w : World} {B b : Nat} {its : List St.It} {tx : List UInt8} {cuts : List Nat} {l : List UInt8} {a n : Nat} {c : UInt8} {w' : World} (h : St.sheetL l = some (1, [c], n)) (hN : St.NoTxt its) (hf : St.fullB its.length tx.length cuts.length true = false) (hb : Below B w w')
    (hB : BAt w' B b its (tx ++ [c]) (cuts ++ [a])) (ht : tx.length ≤ cuts.length) (m : Int) (hm : m = ((a + n : Nat) : Int)) : ElEnd w B b its tx cuts l a (.returned (.tuple #[.int .i64 m, .int .i64 0])) w' := by
  refine ⟨hb, ?_⟩; rw [h]; simp only
  rw [if_neg (fun h2 => by rw [(St.full_byte hN c cuts.length).1 h2] at hf; cases hf), hm]
  exact ⟨rfl, its, tx ++ [c], hB, hN, (St.add_byte hN c).symm, by simp; omega⟩
theorem el_full5 {w : World} {B b : Nat} {its : List St.It} {tx : List UInt8} {cuts : List Nat} {l : List UInt8} {a n : Nat} {t : List UInt8} {w' : World} (h : St.sheetL l = some (5, t, n)) (hf : St.fullB its.length tx.length cuts.length false = true) (hb : Below B w w') :
    ElEnd w B b its tx cuts l a (.returned (.tuple #[.int .i64 a, .int .i64 3])) w' := by
  refine ⟨hb, ?_⟩; rw [h]; simp only
  rw [if_pos ((St.full_item 5 t cuts.length (by decide)).2 hf)]
  trivial
theorem el_item {w : World} {B b : Nat} {its : List St.It} {tx : List UInt8} {cuts : List Nat} {l : List UInt8} {a n : Nat} {t : List UInt8} {w' : World} (h : St.sheetL l = some (5, t, n)) (hf : St.fullB its.length tx.length cuts.length false = false) (hb : Below B w w')
    (hB : BAt w' B b (its ++ St.txt tx ++ [(5, t, 0)]) [] (cuts ++ [a])) (m : Int) (hm : m = ((a + n : Nat) : Int)) : ElEnd w B b its tx cuts l a (.returned (.tuple #[.int .i64 m, .int .i64 0])) w' := by
  refine ⟨hb, ?_⟩; rw [h]; simp only
  rw [if_neg (fun h2 => by rw [(St.full_item 5 t cuts.length (by decide)).1 h2] at hf; cases hf), hm]
  exact ⟨rfl, _, [], hB, St.noTxt_snoc _ 5 t 0 (by decide), by rw [St.add_item 5 t (by decide)]; simp [St.txt], by simp⟩

end Go.Proofs.YtofhaokbklfmmaaDoor
