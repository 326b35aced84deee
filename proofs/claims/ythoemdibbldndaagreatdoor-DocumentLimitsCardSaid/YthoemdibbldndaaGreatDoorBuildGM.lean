/- The contracts of the codecs' builder: Byte, flush, Item, Items, Cuts. Condition: the builder lies in a block of the call's own. -/
import Derived.Test.YthoemdibbldndaaGreatDoorBuildG
set_option linter.unusedVariables false
set_option linter.unusedSimpArgs false
namespace Go.Proofs.YthoemdibbldndaaGreatDoor
open Go.RowKit
variable {mo : List Value}

theorem below_step {B b i : Nat} {w w2 w4 : World} {row : Option Nat} {v : Value} (h : Below B w w2) (hBw : B ≤ w2.heap.size) (hg : w2.grownBy w4 row) (hr : ∀ g, row = some g → B ≤ g) (hB : B ≤ b) : Below B w (w4.setCell ⟨b, i, none⟩ v) :=
  (h.grown hg hBw hr).setCell (p := ⟨b, i, none⟩) hB v

set_option maxRecDepth 20000 in
set_option maxHeartbeats 3200000 in
theorem byte_any (w : World) (B b : Nat) (its : List St.It) (tx : List UInt8) (cuts : List Nat) (c : UInt8) (off : Nat) (h : BAt mo w B b its tx cuts) (h1 : its.length ≤ 600) (h2 : cuts.length ≤ 2000) (h3 : tx.length ≤ 2000) (hBw : B ≤ w.heap.size) :
    Calls Tryz.prog 162 #[.pointer (some ⟨b, 0, none⟩), .int .u8 c.toNat, .int .i64 off] w fun e w' =>
      e = .returned (.bool (!St.fullB its.length tx.length cuts.length true)) ∧ (St.fullB its.length tx.length cuts.length true = false → BAt mo w' B b its (tx ++ [c]) (cuts ++ [off])) ∧ Below B w w' := by
  have hf := full_any w B b its tx cuts true h h1 h2
  cases hb : St.fullB its.length tx.length cuts.length true
  · rw [hb] at hf
    obtain ⟨v0, v1, v2, hv⟩ := h
    have HV := hid hv
    obtain ⟨hB, hbk, ho0, ho1, ho2⟩ := hv
    obtain ⟨A1, c1, rfl, _⟩ := own_slice ho1
    obtain ⟨A2, c2, rfl, _⟩ := own_slice ho2
    have g1 : w.cell? ⟨b, 1, none⟩ = some (.slice A1 tx.length c1) := Lib.cell_of_heap hbk 1
    have g2 : w.cell? ⟨b, 2, none⟩ = some (.slice A2 cuts.length c2) := Lib.cell_of_heap hbk 2
    have f1 : w.frozen? ⟨b, 1, none⟩ = false := Lib.frozen_of_heap hbk 1
    have hlt := lt_of_heap hbk
    haveI : LtW b w := LtW.of hlt
    obtain ⟨i8, hi, hz0, hz1, hz2⟩ := info_parts info_byte
    obtain ⟨ii, ki, kz0, kz1, kz2⟩ := info_parts info_int
    have HF := hid hf
    have HO1 := hid ho1
    have HB := hid hB
    generalize hn1 : tx.length = n1 at *
    generalize hn2 : cuts.length = n2 at *
    clear hf hbk ho0 ho1 ho2 hB
    go_enter Tryz.func162, Tryz.ntmps162
    go_wp2_with fail
    refine HF.out.mono ?_
    rintro e w' ⟨rfl, rfl⟩
    go_wp2_with (at_builtin; refine wpList_append_own _ rfl _ _ 22 rfl B 5 i8 (.int .u8 0) 1 1 Tryz.underlying22 hi hz0 hz1 hz2 rfl (by decide) (.slice A1 n1 c1) n1 _ rfl (HO1.out.alloc _) _ 1 1 [.int .u8 c.toNat] rfl rfl ?_ (by simp; rfl) (by unfold maxLen; omega) (by omega) ?_ ?_)
    · exact side1b _ _ _
    · simp; omega
    · intro v' w4 hown' hgrow _
      have hBV4 : BV mo (w4.setCell ⟨b, 1, none⟩ v') B b v0 v' (.slice A2 n2 c2) its (tx ++ [c]) cuts := by
        refine BV.grow1 (HV.out.und ((Und.refl w).alloc _)) hgrow ?_
        rw [bytes_snoc, List.length_append, List.length_singleton, hn1]; exact hown'
      have hbl4 : Below B w (w4.setCell ⟨b, 1, none⟩ v') := below_step ((Below.refl B w).alloc hBw _) (by simp; omega) hgrow (fun g hg => owns_block HO1.out g hg) HB.out
      have hb4 : w4.heap[b]? = some (Obj.cells ⟨v0 :: .slice A1 n1 c1 :: .slice A2 n2 c2 :: mo⟩ rdT (0, 0)) := by
        obtain ⟨q0, q1, _, q3, _⟩ := HV.out.und ((Und.refl w).alloc (.cells #[.int .u8 c.toNat] 5))
        exact (hgrow.block b (lt_of_heap q1) (fun e => own_ne q3 q1 (by decide) e.symm)).trans q1
      obtain ⟨A1', c1', rfl, _⟩ := own_slice hown'
      have e1 : w4.cell? ⟨b, 1, none⟩ = some (.slice A1 n1 c1) := Lib.cell_of_heap hb4 1
      have e1f : w4.frozen? ⟨b, 1, none⟩ = false := Lib.frozen_of_heap hb4 1
      have e2 : w4.cell? ⟨b, 2, none⟩ = some (.slice A2 n2 c2) := Lib.cell_of_heap hb4 2
      have e2f : w4.frozen? ⟨b, 2, none⟩ = false := Lib.frozen_of_heap hb4 2
      haveI : LtW b w4 := LtW.of (lt_of_heap hb4)
      have HBV4 := hid hBV4
      have HBL4 := hid hbl4
      have HO2 := hid hBV4.2.2.2.2
      have hsz4 : B ≤ w4.heap.size := by have := hbl4.size; simp at this; omega
      clear hBV4 hbl4 hb4 hown' hgrow g1 g2 f1
      go_wp2_with (at_builtin; refine wpList_append_own _ rfl _ _ 42 rfl B 3 ii (.int .i64 0) 1 8 Tryz.underlying42 ki kz0 kz1 kz2 rfl (by decide) (.slice A2 n2 c2) n2 _ rfl (by have := HO2.out.alloc (.cells #[.int .i64 off] 3); rw [hn2] at this; exact this) _ 1 1 [.int .i64 off] rfl rfl ?_ (by simp; rfl) (by unfold maxLen; omega) (by omega) ?_ ?_)
      · exact side1c _ _ _ _ (by simp)
      · simp; omega
      · intro v2' w6 hown2 hgrow2 _
        have hBV6 : BV mo (w6.setCell ⟨b, 2, none⟩ v2') B b v0 (.slice A1' (n1 + 1) c1') v2' its (tx ++ [c]) (cuts ++ [off]) := by
          refine BV.grow2 (HBV4.out.und ((Und.refl _).alloc _)) hgrow2 ?_
          rw [cellsN_snoc, List.length_append, List.length_singleton, hn2]; exact hown2
        have hbl6 : Below B w (w6.setCell ⟨b, 2, none⟩ v2') := below_step (HBL4.out.alloc (by simp; omega) _) (by simp; omega) hgrow2 (fun g hg => owns_block HO2.out g hg) HB.out
        have hb6 : w6.heap[b]? = some (Obj.cells ⟨v0 :: .slice A1' (n1 + 1) c1' :: .slice A2 n2 c2 :: mo⟩ rdT (0, 0)) := by
          obtain ⟨q0, q1, _, _, q4⟩ := HBV4.out.und ((Und.refl _).alloc (.cells #[.int .i64 off] 3))
          exact (hgrow2.block b (lt_of_heap q1) (fun e => own_ne q4 q1 (by decide) e.symm)).trans q1
        obtain ⟨A2', c2', rfl, _⟩ := own_slice hown2
        have d2 : w6.cell? ⟨b, 2, none⟩ = some (.slice A2 n2 c2) := Lib.cell_of_heap hb6 2
        have d2f : w6.frozen? ⟨b, 2, none⟩ = false := Lib.frozen_of_heap hb6 2
        haveI : LtW b w6 := LtW.of (lt_of_heap hb6)
        have HE := hid (And.intro hBV6 hbl6)
        clear hBV6 hbl6 hb6 hown2 hgrow2 e1 e2 e1f e2f HBV4 HBL4
        go_wp2
        go_ret
        exact ⟨rfl, fun _ => ⟨_, _, _, HE.out.1⟩, HE.out.2⟩
  · rw [hb] at hf
    have HF := hid hf
    clear hf h
    go_enter Tryz.func162, Tryz.ntmps162
    go_wp2_with fail
    refine HF.out.mono ?_
    rintro e w' ⟨rfl, rfl⟩
    go_wp2
    go_ret
    exact ⟨rfl, (fun h => nomatch h), Below.refl _ _⟩

/-- The bytes of a row of the call's own, as a string. -/
theorem conv_own {w : World} {B n c : Nat} {A : Option Addr} {l : List UInt8} (h : w.ownsRow B 5 1 (.slice A n c) n (Lib.byteCells l)) (h0 : 0 < n) :
    (convert 22 9 (.slice A n c)).run Tryz.prog w = .ok (.string ⟨l.toArray⟩) w := by
  have hl : l.length = n := by have := h.1; rw [Lib.byteCells_length] at this; simpa using this
  obtain ⟨g, rfl, _, _, hc⟩ := own_cell h h0
  rw [run_convert_bytes_arg w 22 5 Tryz.underlying22 Tryz.underlying5 g 0 n c (l.map fun x => (x.toNat : Int)) (by simpa using hl) (fun i hi => by
    rw [Nat.zero_add]
    refine hc i _ ?_
    have hil : i < l.length := by omega
    simp [Lib.byteCells, List.getD_eq_getElem?_getD, hil]) _ Tryz.underlying9]
  simp [strOfNums, Function.comp_def]
theorem BV.after {w w1 : World} {B b : Nat} {v0 v1 v2 : Value} {its : List St.It} {tx : List UInt8} {cuts : List Nat} (h : BV mo w B b v0 v1 v2 its tx cuts) {row : Option Nat} (hg : w.grownBy w1 row) (hr : row = v0.ownBlock ∨ row = v1.ownBlock ∨ row = v2.ownBlock) :
    w1.heap[b]? = some (Obj.cells ⟨v0 :: v1 :: v2 :: mo⟩ rdT (0, 0)) := by
  obtain ⟨_, h1, h2, h3, h4⟩ := h
  refine (hg.block b (lt_of_heap h1) (fun e => ?_)).trans h1
  rcases hr with rfl | rfl | rfl
  · exact own_ne h2 h1 (by decide) e.symm
  · exact own_ne h3 h1 (by decide) e.symm
  · exact own_ne h4 h1 (by decide) e.symm
theorem BV.cells {w : World} {B b : Nat} {v0 v1 v2 : Value} {its : List St.It} {tx : List UInt8} {cuts : List Nat} (h : BV mo w B b v0 v1 v2 its tx cuts) : ∃ A0 c0 A1 c1 A2 c2, v0 = .slice A0 its.length c0 ∧ v1 = .slice A1 tx.length c1 ∧ v2 = .slice A2 cuts.length c2 := by
  obtain ⟨_, _, h2, h3, h4⟩ := h
  obtain ⟨A0, c0, e0, _⟩ := own_slice h2
  obtain ⟨A1, c1, e1, _⟩ := own_slice h3
  obtain ⟨A2, c2, e2, _⟩ := own_slice h4
  exact ⟨A0, c0, A1, c1, A2, c2, e0, e1, e2⟩

set_option maxRecDepth 20000 in
set_option maxHeartbeats 3200000 in
theorem flush_any (w W : World) (B b : Nat) (its : List St.It) (tx : List UInt8) (cuts : List Nat) (h : BAt mo w B b its tx cuts) (hu : Und w W) (h1 : its.length ≤ 600) (h3 : tx.length ≤ 2000) (hBw : B ≤ w.heap.size) :
    Calls Tryz.prog 121 #[.pointer (some ⟨b, 0, none⟩)] W fun e w' =>
      e = .returned (.tuple #[]) ∧ BAt mo w' B b (its ++ St.txt tx) [] cuts ∧ Below B W w' ∧ ∀ k, w.heap.size ≤ k → k < W.heap.size → w'.heap[k]? = W.heap[k]? := by
  obtain ⟨v0, v1, v2, hv⟩ := h
  have hlw := lt_of_heap hv.2.1
  have hol : ∀ g, v0.ownBlock = some g → g < w.heap.size := fun g hg => (hv.2.2.1.lt g hg).2
  replace hv := hv.und hu
  have hBW : B ≤ W.heap.size := Nat.le_trans hBw hu.size
  have HV := hid hv
  obtain ⟨A0, c0, A1, c1, A2, c2, rfl, rfl, rfl⟩ := hv.cells
  obtain ⟨hB, hbk, ho0, ho1, ho2⟩ := hv
  have g0 : W.cell? ⟨b, 0, none⟩ = some (.slice A0 its.length c0) := Lib.cell_of_heap hbk 0
  have g1 : W.cell? ⟨b, 1, none⟩ = some (.slice A1 tx.length c1) := Lib.cell_of_heap hbk 1
  haveI : LtW b W := LtW.of (lt_of_heap hbk)
  have HO0 := hid ho0
  have HO1 := hid ho1
  have HB := hid hB
  have HOL := hid hol
  have hlW := hu.size
  rcases Nat.eq_zero_or_pos tx.length with z | z
  · have htx : tx = [] := List.eq_nil_of_length_eq_zero z
    subst htx
    clear ho0 ho1 ho2 hbk hB hol
    go_enter Tryz.func121, Tryz.ntmps121
    go_wp2
    go_end0
    exact ⟨rfl, ⟨_, _, _, by simpa [St.txt] using HV.out⟩, Below.refl _ _, fun _ _ _ => rfl⟩
  · have z' : (0 : Int) < (tx.length : Int) := by omega
    have hcv := conv_own ho1 z
    have hcv' : (convert 22 9 (.slice A1 tx.length c1)).run Tryz.prog W.drew = .ok (.string ⟨tx.toArray⟩) W.drew := conv_own (w := W.drew) ho1 z
    obtain ⟨i0, hi, hz0, hz1, hz2⟩ := info_parts info_item
    have hdw : Und W W.drew := (by repeat (first | exact Und.refl _ | assumption | refine Und.under ?_ _ | refine Und.alloc ?_ _ | refine Und.drew ?_ | refine Und.drewN ?_ _))
    have HVD := hid (HV.out.und hdw)
    generalize hn0 : its.length = n0 at *
    generalize hn1 : tx.length = n1 at *
    clear ho0 ho1 ho2 hbk hB hol hcv
    go_enter Tryz.func121, Tryz.ntmps121
    go_wp2_with fail
    go_region_law (refine step_append_own rfl (.tmp 12) (.tmp 19) 37 rfl B 36 i0 (.agg #[.int .i64 0, .string ⟨#[]⟩, .int .i64 0]) 3 32 Tryz.underlying37 hi hz0 hz1 hz2 rfl (by decide) (.slice A0 n0 c0) n0 _ rfl (owns_und (HO0.out.alloc (.cells #[.int .i64 1, .string ⟨tx.toArray⟩, .int .i64 0] 36)) (Und.refl _).drew) ⟨W.heap.size, 0, none⟩ 1 1 [.int .i64 1, .string ⟨tx.toArray⟩, .int .i64 0] rfl rfl (side3b W _ _ _ 36 _ rfl) (item_one 1 0 _) (by unfold maxLen; omega) (by omega) (by simp; omega) ?_; intro v' w1 hown' hgrow _; have hgr := gb_trans (Und.gb ((by repeat (first | exact Und.refl _ | assumption | refine Und.under ?_ _ | refine Und.alloc ?_ _ | refine Und.drew ?_ | refine Und.drewN ?_ _)) : Und W (W.alloc (.cells #[.int .i64 1, .string ⟨tx.toArray⟩, .int .i64 0] 36)).drew) (Value.slice A0 n0 c0).ownBlock) hgrow (fun g e => Or.inl e); have hb4 := HV.out.after hgr (Or.inl rfl); have e0 : w1.cell? ⟨b, 0, none⟩ = some (.slice A0 n0 c0) := Lib.cell_of_heap hb4 0; have e1 : w1.cell? ⟨b, 1, none⟩ = some (.slice A1 n1 c1) := Lib.cell_of_heap hb4 1; have f0 : w1.frozen? ⟨b, 0, none⟩ = false := Lib.frozen_of_heap hb4 0; have f1 : w1.frozen? ⟨b, 1, none⟩ = false := Lib.frozen_of_heap hb4 1; haveI : LtW b w1 := LtW.of (lt_of_heap hb4); obtain ⟨A', c', rfl, _⟩ := own_slice hown')
    all_goals
      have hBV4 : BV mo (w1.setCell ⟨b, 0, none⟩ (.slice A' (n0 + 1) c')) B b (.slice A' (n0 + 1) c') (.slice A1 n1 c1) (.slice A2 cuts.length c2) (its ++ [(1, tx, 0)]) tx cuts := by
        refine BV.grow0 HV.out hgr ?_
        rw [cellsIt_snoc, List.length_append, List.length_singleton, hn0]; exact hown'
      have hbl : Below B W (w1.setCell ⟨b, 0, none⟩ (.slice A' (n0 + 1) c')) := below_step (Below.refl B W) hBW hgr (fun g hg => owns_block HO0.out g hg) HB.out
      have hfr : ∀ k, w.heap.size ≤ k → k < W.heap.size → w1.heap[k]? = W.heap[k]? := fun k hk hk2 => hgr.block k hk2 (fun e => by have := HOL.out k e.symm; omega)
      have HE := hid (And.intro hBV4 (And.intro hbl hfr))
      clear hBV4 hbl hfr hgr hgrow hown' hb4
      go_wp2
      go_end0
      have ht : St.txt tx = [(1, tx, 0)] := by unfold St.txt; rw [if_neg (by intro e; rw [e] at hn1; simp at hn1; omega)]
      have hba : BAt mo ((w1.setCell ⟨b, 0, none⟩ (.slice A' (n0 + 1) c')).setCell ⟨b, 1, none⟩ (.slice none 0 0)) B b (its ++ St.txt tx) [] cuts := by
        rw [ht]
        exact ⟨_, _, _, HE.out.1.clear1⟩
      refine ⟨rfl, hba, HE.out.2.1.setCell (p := ⟨b, 1, none⟩) HB.out _, fun k hk hk2 => ?_⟩
      · rw [heap_setCell_other _ _ _ _ (by show k ≠ b; omega), heap_setCell_other _ _ _ _ (by show k ≠ b; omega)]
        exact HE.out.2.2 k hk hk2
end Go.Proofs.YthoemdibbldndaaGreatDoor
