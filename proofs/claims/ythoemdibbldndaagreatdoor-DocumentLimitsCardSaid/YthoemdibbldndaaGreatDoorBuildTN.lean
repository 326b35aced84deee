/- The contracts of the codecs' builder: Item, Items, Cuts. Condition: the builder lies in a block of the call's own. -/
import Derived.Test.YthoemdibbldndaaGreatDoorBuildTM
set_option linter.unusedVariables false
set_option linter.unusedSimpArgs false
namespace Go.Proofs.YthoemdibbldndaaGreatDoor.Mk
open Go.RowKit
variable {mo : Mo}

theorem txt_len1 (t : List UInt8) : (St.txt t).length ≤ 1 := by rw [St.txt_len]; split <;> omega

set_option maxRecDepth 20000 in
set_option maxHeartbeats 6400000 in
theorem item_any (w : World) (B b : Nat) (its : List St.It) (tx : List UInt8) (cuts : List Nat) (k i : Int) (s : ByteArray) (off : Nat) (h : BAt mo w B b its tx cuts) (h1 : its.length ≤ 600) (h2 : cuts.length ≤ 2000) (h3 : tx.length ≤ 2000) (hBw : B ≤ w.heap.size) :
    Calls Tryz.prog 164 #[.pointer (some ⟨b, 0, none⟩), .agg #[.int .i64 k, .string s, .int .i64 i], .int .i64 off] w fun e w' =>
      e = .returned (.bool (!St.fullB its.length tx.length cuts.length false)) ∧ (St.fullB its.length tx.length cuts.length false = false → BAt mo w' B b (its ++ St.txt tx ++ [(k, s.data.toList, i)]) [] (cuts ++ [off])) ∧ Below B w w' := by
  have huA : Und w (w.alloc (.cells #[.int .i64 k, .string s, .int .i64 i] 36)) := (by repeat (first | exact Und.refl _ | assumption | refine Und.under ?_ _ | refine Und.alloc ?_ _ | refine Und.drew ?_ | refine Und.drewN ?_ _))
  have hf := full_any _ B b its tx cuts false (h.und huA) h1 h2
  have hfl := flush_any w _ B b its tx cuts h huA h1 h3 hBw
  have HFL := hid hfl
  cases hb : St.fullB its.length tx.length cuts.length false
  · rw [hb] at hf
    have HF := hid hf
    clear hf hfl h
    go_enter Tryz.func164, Tryz.ntmps164
    go_wp2_with fail
    refine HF.out.mono ?_
    rintro e w' ⟨rfl, rfl⟩
    go_wp2_with fail
    refine HFL.out.mono ?_
    rintro e w2 ⟨rfl, ⟨v0, v1, v2, hv⟩, hbl, hfr⟩
    have hbox : w2.heap[w.heap.size]? = some (Obj.cells #[.int .i64 k, .string s, .int .i64 i] 36 (0, 0)) := (hfr _ (Nat.le_refl _) (by simp)).trans (heap_alloc_new w _)
    have x0 : w2.cell? ⟨w.heap.size, 0, none⟩ = some (.int .i64 k) := Lib.cell_of_heap hbox 0
    have x1 : w2.cell? ⟨w.heap.size, 1, none⟩ = some (.string s) := Lib.cell_of_heap hbox 1
    have x2 : w2.cell? ⟨w.heap.size, 2, none⟩ = some (.int .i64 i) := Lib.cell_of_heap hbox 2
    haveI : LtW w.heap.size w2 := LtW.of (lt_of_heap hbox)
    have HV := hid hv
    obtain ⟨A0, c0, A1, c1, A2, c2, rfl, rfl, rfl⟩ := hv.cells
    obtain ⟨hB, hbk, ho0, ho1, ho2, ho3, hds⟩ := hv
    have g0 : w2.cell? ⟨b, 0, none⟩ = some (.slice A0 (its ++ St.txt tx).length c0) := Lib.cell_of_heap hbk 0
    have hsz2 : B ≤ w2.heap.size := Nat.le_trans (Nat.le_trans hBw huA.size) hbl.size
    have HBL := hid ((Below.refl B w).alloc hBw (.cells #[.int .i64 k, .string s, .int .i64 i] 36) |>.trans hbl)
    have hn0l : (its ++ St.txt tx).length ≤ 601 := by have := txt_len1 tx; simp; omega
    haveI : LtW b w2 := LtW.of (lt_of_heap hbk)
    have HO0 := hid ho0
    have HB := hid hB
    generalize hits : its ++ St.txt tx = its2 at *
    obtain ⟨i0, hi, hz0, hz1, hz2⟩ := info_parts info_item
    obtain ⟨ii, ki, kz0, kz1, kz2⟩ := info_parts info_int
    generalize hn0 : its2.length = n0 at *
    generalize hn2 : cuts.length = n2 at *
    clear hbk ho0 ho1 ho2 ho3 hds hB hbl hfr hbox HF HFL
    go_wp2_with fail
    go_region_law (refine step_append_own2 rfl (.tmp 15) (.tmp 17) 37 rfl B 36 i0 (.agg #[.int .i64 0, .string ⟨#[]⟩, .int .i64 0]) 3 32 Tryz.underlying37 hi hz0 hz1 hz2 rfl (by decide) (.slice A0 n0 c0) n0 _ rfl (owns_und (HO0.out.alloc (.cells #[.int .i64 k, .string s, .int .i64 i] 36)) (Und.refl _).drew) ⟨w2.heap.size, 0, none⟩ 1 1 [.int .i64 k, .string s, .int .i64 i] rfl rfl (side3b w2 _ _ _ 36 _ rfl) (item_one k i _) (by unfold maxLen; omega) (by omega) (by simp; omega) ?_; intro v' w1 hown' hgrow hfr0; have hgr := gb_trans (Und.gb ((by repeat (first | exact Und.refl _ | assumption | refine Und.under ?_ _ | refine Und.alloc ?_ _ | refine Und.drew ?_ | refine Und.drewN ?_ _)) : Und w2 (w2.alloc (.cells #[.int .i64 k, .string s, .int .i64 i] 36)).drew) (Value.slice A0 n0 c0).ownBlock) hgrow (fun g e => Or.inl e); have hb4 := HV.out.after hgr (Or.inl rfl); have e0 : w1.cell? ⟨b, 0, none⟩ = some (.slice A0 n0 c0) := Lib.cell_of_heap hb4 0; have f0 : w1.frozen? ⟨b, 0, none⟩ = false := Lib.frozen_of_heap hb4 0; haveI : LtW b w1 := LtW.of (lt_of_heap hb4); obtain ⟨A', c', rfl, _⟩ := own_slice hown')
    all_goals
      have hBV4 : BV mo (w1.setCell ⟨b, 0, none⟩ (.slice A' (n0 + 1) c')) B b (.slice A' (n0 + 1) c') (.slice A1 ([] : List UInt8).length c1) (.slice A2 n2 c2) (its2 ++ [(k, s.data.toList, i)]) [] cuts := by
        refine BV.grow0 HV.out hgr (by simp) hfr0 ?_
        rw [cellsIt_snoc, List.length_append, List.length_singleton, hn0]
        simp only [ba_eta]
        exact hown'
      have hbl4 : Below B w (w1.setCell ⟨b, 0, none⟩ (.slice A' (n0 + 1) c')) := below_step HBL.out hsz2 hgr (fun g hg => owns_block HO0.out g hg) HB.out
      have e2 : w1.cell? ⟨b, 2, none⟩ = some (.slice A2 n2 c2) := Lib.cell_of_heap hb4 2
      have f2 : w1.frozen? ⟨b, 2, none⟩ = false := Lib.frozen_of_heap hb4 2
      have HBV4 := hid hBV4
      have HBL4 := hid hbl4
      have HO2 := hid hBV4.2.2.2.2.1
      have hsz4 : B ≤ w1.heap.size := by have := hbl4.size; simp at this; omega
      clear hBV4 hbl4 hb4 hown' hgrow hgr hfr0 g0 x0 x1 x2 HV HO0 HBL
      go_wp2_with (at_builtin; refine wpList_append_own _ rfl _ _ 42 rfl B 3 ii (.int .i64 0) 1 8 Tryz.underlying42 ki kz0 kz1 kz2 rfl (by decide) (.slice A2 n2 c2) n2 _ rfl (by have := HO2.out.alloc (.cells #[.int .i64 off] 3); rw [hn2] at this; exact this) _ 1 1 [.int .i64 off] rfl rfl ?_ (by simp; rfl) (by unfold maxLen; omega) (by omega) ?_ ?_)
      · exact side1c _ _ _ _ (by simp)
      · simp; omega
      · intro v2' w6 hown2 hgrow2 _
        have hBV6 : BV mo (w6.setCell ⟨b, 2, none⟩ v2') B b (.slice A' (n0 + 1) c') (.slice A1 ([] : List UInt8).length c1) v2' (its2 ++ [(k, s.data.toList, i)]) [] (cuts ++ [off]) := by
          refine BV.grow2 (HBV4.out.und ((Und.refl _).alloc _)) hgrow2 ?_
          rw [cellsN_snoc, List.length_append, List.length_singleton, hn2]; exact hown2
        have hbl6 : Below B w (w6.setCell ⟨b, 2, none⟩ v2') := below_step (HBL4.out.alloc (by simp; omega) _) (by simp; omega) hgrow2 (fun g hg => owns_block HO2.out g hg) HB.out
        have hb6 := (HBV4.out.und ((Und.refl _).alloc (.cells #[.int .i64 off] 3))).after hgrow2 (Or.inr (Or.inr rfl))
        obtain ⟨A2', c2', rfl, _⟩ := own_slice hown2
        have d2 : w6.cell? ⟨b, 2, none⟩ = some (.slice A2 n2 c2) := Lib.cell_of_heap hb6 2
        have d2f : w6.frozen? ⟨b, 2, none⟩ = false := Lib.frozen_of_heap hb6 2
        haveI : LtW b w6 := LtW.of (lt_of_heap hb6)
        have HE := hid (And.intro (show BAt mo _ B b (its2 ++ [(k, s.data.toList, i)]) [] (cuts ++ [off]) from ⟨_, _, _, hBV6⟩) hbl6)
        clear hBV6 hbl6 hb6 hown2 hgrow2 e0 f0 e2 f2 HBV4 HBL4
        go_wp2
        go_ret
        subst hits
        exact ⟨rfl, fun _ => HE.out.1, HE.out.2⟩
  · rw [hb] at hf
    have HF := hid hf
    clear hf hfl HFL
    go_enter Tryz.func164, Tryz.ntmps164
    go_wp2_with fail
    refine HF.out.mono ?_
    rintro e w' ⟨rfl, rfl⟩
    go_wp2
    go_ret
    exact ⟨rfl, (fun h => nomatch h), (Below.refl B w).alloc hBw _⟩

set_option maxHeartbeats 1600000 in
theorem items_any (w : World) (B b : Nat) (its : List St.It) (tx : List UInt8) (cuts : List Nat) (h : BAt mo w B b its tx cuts) (h1 : its.length ≤ 600) (h3 : tx.length ≤ 2000) (hBw : B ≤ w.heap.size) :
    Calls Tryz.prog 82 #[.pointer (some ⟨b, 0, none⟩)] w fun e w' => ∃ A c, e = .returned (.slice A (its ++ St.txt tx).length c) ∧ ItemsAt w' A (its ++ St.txt tx) ∧ (its ++ St.txt tx).length ≤ c ∧ c ≤ 9223372036854775807 ∧ Below B w w' := by
  have HFL := hid (flush_any w w B b its tx cuts h (Und.refl w) h1 h3 hBw)
  clear h
  go_enter Tryz.func82, Tryz.ntmps82
  go_wp2_with fail
  refine HFL.out.mono ?_
  rintro e w2 ⟨rfl, ⟨v0, v1, v2, hv⟩, hbl, _⟩
  obtain ⟨A0, c0, A1, c1, A2, c2, rfl, rfl, rfl⟩ := hv.cells
  obtain ⟨hB, hbk, ho0, ho1, ho2, ho3, hds⟩ := hv
  have g0 : w2.cell? ⟨b, 0, none⟩ = some (.slice A0 (its ++ St.txt tx).length c0) := Lib.cell_of_heap hbk 0
  haveI : LtW b w2 := LtW.of (lt_of_heap hbk)
  obtain ⟨_, _, hq, hq1, hq2⟩ := own_slice ho0
  simp only [Value.slice.injEq] at hq
  obtain ⟨rfl, _, rfl⟩ := hq
  have HE := hid (And.intro (items_own ho0 rfl) hbl)
  clear hbk ho0 ho1 ho2 ho3 hds hB hbl HFL
  generalize hff : its ++ St.txt tx = f at *
  go_wp2
  go_ret
  subst hff
  exact ⟨_, _, rfl, HE.out.1, hq1, by unfold maxLen at hq2; omega, HE.out.2⟩

set_option maxRecDepth 20000 in
set_option maxHeartbeats 1600000 in
theorem bcuts_any (w : World) (B b : Nat) (its : List St.It) (tx : List UInt8) (cuts : List Nat) (last : Nat) (h : BAt mo w B b its tx cuts) (h2 : cuts.length ≤ 2000) (hBw : B ≤ w.heap.size) :
    Calls Tryz.prog 112 #[.pointer (some ⟨b, 0, none⟩), .int .i64 last] w fun e w' => ∃ A c, e = .returned (.slice A (cuts.length + 1) c) ∧ NatsAt w' A (cuts ++ [last]) ∧ cuts.length + 1 ≤ c ∧ c ≤ 9223372036854775807 ∧ Below B w w' := by
  obtain ⟨v0, v1, v2, hv⟩ := h
  obtain ⟨A0, c0, A1, c1, A2, c2, rfl, rfl, rfl⟩ := hv.cells
  obtain ⟨hB, hbk, ho0, ho1, ho2, ho3, hds⟩ := hv
  have g2 : w.cell? ⟨b, 2, none⟩ = some (.slice A2 cuts.length c2) := Lib.cell_of_heap hbk 2
  haveI : LtW b w := LtW.of (lt_of_heap hbk)
  obtain ⟨ii, ki, kz0, kz1, kz2⟩ := info_parts info_int
  have HO2 := hid ho2
  clear hbk ho0 ho1 ho2 ho3 hds hB
  generalize hn2 : cuts.length = n2 at *
  go_enter Tryz.func112, Tryz.ntmps112
  go_wp2_with (at_builtin; refine wpList_append_own _ rfl _ _ 42 rfl B 3 ii (.int .i64 0) 1 8 Tryz.underlying42 ki kz0 kz1 kz2 rfl (by decide) (.slice A2 n2 c2) n2 _ rfl (HO2.out.alloc _) _ 1 1 [.int .i64 last] rfl rfl ?_ (by simp; rfl) (by unfold maxLen; omega) (by omega) ?_ ?_)
  · exact side1b _ _ _
  · simp; omega
  · intro v' w4 hown' hgrow _
    obtain ⟨A', c', rfl, hq1, hq2⟩ := own_slice hown'
    have hna : NatsAt w4 A' (cuts ++ [last]) := nats_own (n := n2 + 1) (by rw [cellsN_snoc]; exact hown') (by simp [hn2])
    have hbl : Below B w w4 := ((Below.refl B w).alloc hBw _).grown hgrow (by simp; omega) (fun g hg => owns_block HO2.out g hg)
    have HE := hid (And.intro hna hbl)
    clear hna hbl hown' hgrow
    go_wp2
    go_ret
    exact ⟨_, _, rfl, HE.out.1, hq1, by unfold maxLen at hq2; omega, HE.out.2⟩
end Go.Proofs.YthoemdibbldndaaGreatDoor.Mk
