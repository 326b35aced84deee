/- The contracts of strconv.Itoa at this translation and of the table's field. Condition: the table lies in a block of the call's own, the library's table of powers of ten in memory. -/
import Derived.Test.YtdchoobekngehaaGreatDoorPart
import Derived.Test.YtdchoobekngehaaGreatDoorSheetTab
import Derived.Test.YtdchoobekngehaaGreatDoorShelf
import Derived.WalkSmall
import Derived.Deep.RegionHeld3
namespace Go.Proofs.YtdchoobekngehaaGreatDoor
open Go.RowKit

/-- The name of the table of powers of ten, as the row lists it. -/
def tabName : String := (Rows.sheetMixesRow.named).headD "x"
def Tab (w : World) : Prop := Lib.TabIs Tryz.prog w tabName .u64 Lib.pow10Tab
theorem Tab.und {w w' : World} (h : Und w w') (t : Tab w) : Tab w' := by
  unfold Tab Lib.TabIs World.var? at t ⊢
  cases hg : Program.globalNamed Tryz.prog tabName with
  | none => rw [hg] at t; simp at t
  | some g =>
    rw [hg] at t
    simp only [Option.bind_some] at t ⊢
    have hlt : g < w.heap.size := by
      rcases Nat.lt_or_ge g w.heap.size with h | h
      · exact h
      · rw [Array.getElem?_eq_none h] at t; simp at t
    rw [h.below.block g hlt]
    exact t
theorem Und.grow {a b : World} (h : Und a b) (os : Array Obj) : Und a (Go.Sort.grow b os) := by
  refine Und.mk ⟨h.below.os, h.below.tape, h.below.output, ?_, fun k hk => ?_⟩
  · have := h.below.size; unfold Go.Sort.grow; simp; omega
  · unfold Go.Sort.grow
    have := h.below.size
    rw [Array.getElem?_append_left (by omega)]
    exact h.below.block k hk
theorem itoa_any (n : Nat) (w : World) (h1 : n ≤ 4611686018427387904) (t : Tab w) :
    Calls Tryz.prog 73 #[.int .i64 n] w fun e w' => e = .returned (.string ⟨(Lib.decDigits n).toArray⟩) ∧ Und w w' := by
  refine (Any.strconv_Itoa Tryz.laysM171 n (by omega) (by omega) w t).mono ?_
  rintro e w' ⟨rfl, k, os, rfl⟩
  refine ⟨?_, ((Und.refl w).drewN k).grow os⟩
  unfold Lib.itoa
  rw [if_neg (by omega)]
  simp

theorem step_callR {P : Program} {ops : Array Oper} {o : Oper} {a : Act} {w : World} {K : Act → World → Prop} {Q : Exit → Act → World → Prop} {E : Prop}
    (hg : o.guard = none) (f : FuncId) (args : Array Value) (v : Value) (R : World → World → Prop) (hc : Calls P f args w fun e w' => e = .returned v ∧ R w w')
    (hrun : (execOp a.eval o).run P w = .ok (.enter f args) w) (hK : ∀ w', R w w' → K (a.put o.dst v) w') :
    if Region.wanted o (yielded ops a.tmps) = true then Oper.wp P o a w K Q else E := by
  have hw : Region.wanted o (yielded ops a.tmps) = true := by simp [Region.wanted, hg]
  rw [if_pos hw]
  unfold Oper.wp
  rw [hrun]
  refine hc.mono ?_
  rintro e w' ⟨rfl, hu⟩
  exact hK w' hu
/-- The error of a raw content, with its place. -/
def dE (l : List UInt8) : Nat × Int := ((St.dec St.sheetL l.length l 0 0 [] []).2.2.1, (St.dec St.sheetL l.length l 0 0 [] []).2.2.2)
theorem dE_of (x : ByteArray) : dE x.data.toList = ((sheetD x).2.2.1, (sheetD x).2.2.2) := by
  unfold dE sheetD
  rw [St.len_list]
theorem dec_at : ∀ (fuel : Nat) (l : List UInt8) (a d : Nat) (f : List St.It) (cuts : List Nat), (St.dec St.sheetL fuel l a d f cuts).2.2.1 ≤ a + l.length
  | 0, l, a, d, f, cuts => by simp [St.dec]
  | fuel + 1, l, a, d, f, cuts => by
    by_cases h0 : l = []
    · subst h0; rw [St.dec_nil]; simp
    · cases hs : St.sheetL l with
      | none => rw [St.dec_none fuel a d f cuts h0 hs]; simp
      | some x =>
        obtain ⟨k, t, n⟩ := x
        obtain ⟨hk, hn1, hn2⟩ := St.sheet_len hs
        by_cases hf : 512 < (St.addI f (k, t, 0)).length ∨ 1024 ≤ cuts.length
        · rw [St.dec_full fuel a d f cuts h0 hs (by omega) hf]; simp
        · rw [St.dec_step fuel a d f cuts h0 hs (by omega) hf]
          have h := dec_at fuel (l.drop n) (a + n) (a + n) (St.addI f (k, t, 0)) (cuts ++ [d])
          rw [List.length_drop] at h
          omega
theorem sheetD_at (x : ByteArray) : (sheetD x).2.2.1 ≤ x.size := by
  have := dec_at x.size x.data.toList 0 0 [] []
  rw [St.len_list] at this
  unfold sheetD; omega
def TfEnd (w : World) (B tb pb : Nat) (d : ByteArray) (r cols col texts : Nat) (s : St.PS) (a b n : Nat) (q : Bool) (e : Ending) (w' : World) : Prop :=
  Below B w w' ∧ if cols ≤ n ∨ (n = col ∧ q = false) then e = .returned (.tuple #[.int .i64 a, .int .i64 2]) else
    if n = col ∧ (dE (St.cutL d.data.toList (a + 1) (b - 1))).2 ≠ 0 then e = .returned (.tuple #[.int .i64 ((a + 1 + (dE (St.cutL d.data.toList (a + 1) (b - 1))).1 : Nat) : Int), .int .i64 (dE (St.cutL d.data.toList (a + 1) (b - 1))).2]) else
      e = .returned (.tuple #[.int .i64 0, .int .i64 0]) ∧ TV w' tb pb d r cols col texts ∧ PV w' B pb d (if n = col then St.unitS d.data.toList s (a + 1) (b - 1) (Lib.decDigits r) else s)

set_option maxRecDepth 20000 in
set_option maxHeartbeats 6400000 in
theorem tfield_any (w w0 : World) (B tb pb : Nat) (d : ByteArray) (r cols col texts : Nat) (s : St.PS) (a b n : Nat) (q : Bool) (hT : TV w tb pb d r cols col texts) (hP : PV w B pb d s) (ht : Tab w0) (hB0 : B = w0.heap.size) (h0 : Und w0 w)
    (h1 : s.2 ≤ a) (h2 : a ≤ b) (h3 : b ≤ d.size) (hq : n = col → q = true → a + 2 ≤ b) (hd : d.size ≤ 65536) (hr : r ≤ 100000) (hc : cols ≤ 100000) (hcl : col ≤ 100000) (hn : n ≤ 100000) (hl : s.1.length ≤ 1000000) :
    Calls Tryz.prog 57 #[.pointer (some ⟨tb, 0, none⟩), .int .i64 a, .int .i64 b, .int .i64 n, .bool q] w (TfEnd w B tb pb d r cols col texts s a b n q) := by
  have hBw : B ≤ w.heap.size := by rw [hB0]; exact h0.size
  have hv := hT
  unfold TV at hv
  have c0 : w.cell? ⟨tb, 0, none⟩ = some (.string d) := Lib.cell_of_heap hv 0
  have c1 : w.cell? ⟨tb, 1, none⟩ = some (.pointer (some ⟨pb, 0, none⟩)) := Lib.cell_of_heap hv 1
  have c2 : w.cell? ⟨tb, 2, none⟩ = some (.int .i64 r) := Lib.cell_of_heap hv 2
  have c3 : w.cell? ⟨tb, 3, none⟩ = some (.int .i64 cols) := Lib.cell_of_heap hv 3
  have c4 : w.cell? ⟨tb, 4, none⟩ = some (.int .i64 col) := Lib.cell_of_heap hv 4
  haveI : LtW tb w := LtW.of (lt_of_heap hv)
  have HT := hid hT
  have HP := hid hP
  have HTB := hid ht
  have H0 := hid h0
  clear hv hT hP ht h0 hB0
  by_cases k1 : cols ≤ n
  · have k1' : (cols : Int) ≤ (n : Int) := by omega
    have hE : TfEnd w B tb pb d r cols col texts s a b n q (.returned (.tuple #[.int .i64 a, .int .i64 2])) w := ⟨Below.refl _ _, by rw [if_pos (Or.inl k1)]⟩
    have HE := hid hE
    clear hE
    go_enter Tryz.func57, Tryz.ntmps57
    go_wp2
    go_ret2
    exact HE.out
  · have k1' : ¬ (cols : Int) ≤ (n : Int) := by omega
    by_cases k2 : n = col
    · subst k2
      have m2 : ((n : Int) == (n : Int)) = true := by simp
      cases q
      · have hE : TfEnd w B tb pb d r cols n texts s a b n false (.returned (.tuple #[.int .i64 a, .int .i64 2])) w := ⟨Below.refl _ _, by rw [if_pos (Or.inr ⟨rfl, rfl⟩)]⟩
        have HE := hid hE
        clear hE
        go_enter Tryz.func57, Tryz.ntmps57
        go_wp2
        go_ret2
        exact HE.out
      · have hq2 := hq rfl rfl
        obtain ⟨b2, rfl⟩ : ∃ b2, b = b2 + 1 := ⟨b - 1, by omega⟩
        obtain ⟨x, hX⟩ : ∃ x, d.extract (a + 1) b2 = x := ⟨_, rfl⟩
        have hxl : x.data.toList = St.cutL d.data.toList (a + 1) (b2 + 1 - 1) := by rw [← hX, cut_list]; rfl
        have hxs : x.size ≤ d.size := by rw [← hX]; simp; omega
        have hdx := dE_of x
        rw [hxl] at hdx
        have HDX := hid hdx
        have HDC := hid (fun W => sdecode_any x W (by omega))
        have z1 : (a : Int) + 1 ≤ (b2 : Int) := by omega
        have z2 : (b2 : Int) ≤ d.size := by omega
        have z3 : (0 : Int) ≤ (a : Int) + 1 := by omega
        have z4 : (b2 : Int) + 1 - 1 = b2 := by omega
        have ha1 : ((a + 1 : Nat) : Int) = (a : Int) + 1 := by omega
        have HUN := hid (fun W (hW : Und w W) => (by have h := unit_any W B pb d ⟨(Lib.decDigits r).toArray⟩ s (a + 1) b2 (HP.out.und hW) (by omega) (by omega) (by omega) (by omega) hl (Nat.le_trans hBw hW.size); rw [ha1] at h; exact h : Calls Tryz.prog 72 #[.pointer (some ⟨pb, 0, none⟩), .int .i64 ((a : Int) + 1), .int .i64 b2, .string ⟨(Lib.decDigits r).toArray⟩] W fun e w' => e = .returned (.tuple #[]) ∧ PV w' B pb d (St.unitS d.data.toList s (a + 1) b2 (Lib.decDigits r)) ∧ Below B W w' ∧ TKept ptT W w'))
        have HIT := hid (fun W (hW : Und w W) => itoa_any r W (by omega) (HTB.out.und (H0.out.trans hW)))
        have hat := sheetD_at x
        clear hxl hdx hq hq2 ha1
        generalize hR : sheetD x = R at *
        obtain ⟨f, cu, i, er⟩ := R
        simp only at hat
        have hi6 : i ≤ 65536 := by omega
        by_cases ke : er = 0
        · subst ke
          go_enter Tryz.func57, Tryz.ntmps57
          go_wp2_with fail
          refine (HDC.out _).mono ?_
          rintro e w2 ⟨A, c, rfl, _, _, _, hu2⟩
          have HU2 := hid hu2
          clear hu2
          go_wp2_with fail
          have g1 : w2.cell? ⟨tb, 1, none⟩ = some (.pointer (some ⟨pb, 0, none⟩)) := (HU2.out.cell (LtW.lt inferInstance)).trans c1
          have g2 : w2.cell? ⟨tb, 2, none⟩ = some (.int .i64 r) := (HU2.out.cell (LtW.lt inferInstance)).trans c2
          haveI : LtW tb w2 := LtW.of (World.block_lt_of_cell? _ _ g1)
          have hw1 : IntKind.i64.wrap ((a : Int) + 1) = (a : Int) + 1 := IntWalk.i64_in _ (by omega)
          have hw3 : IntKind.i64.wrap (b2 : Int) = (b2 : Int) := IntWalk.i64_in _ (by omega)
          have hw2 : IntKind.i64.wrap ((b2 : Int) + 1 - 1) = (b2 : Int) := by rw [z4]; exact IntWalk.i64_in _ (by omega)
          clear c0 c1 c2 c3 c4
          go_region_law (first | (refine step_callR rfl 73 #[.int .i64 r] (.string ⟨(Lib.decDigits r).toArray⟩) Und (HIT.out _ (HU2.out.trans (by repeat (first | exact Und.refl _ | assumption | refine Und.under ?_ _ | refine Und.alloc ?_ _ | refine Und.drew ?_ | refine Und.drewN ?_ _)))) ?_ ?_; (· go_simp; done); intro w5 hu5; have g1' := (hu5.cell (p := ⟨tb, 1, none⟩) (LtW.lt inferInstance)).trans g1; haveI : LtW tb w5 := LtW.of (World.block_lt_of_cell? _ _ g1')) | (refine step_callR rfl 72 #[.pointer (some ⟨pb, 0, none⟩), .int .i64 ((a : Int) + 1), .int .i64 b2, .string ⟨(Lib.decDigits r).toArray⟩] (.tuple #[]) (fun W w' => PV w' B pb d (St.unitS d.data.toList s (a + 1) b2 (Lib.decDigits r)) ∧ Below B W w' ∧ TKept ptT W w') (HUN.out _ (HU2.out.trans (((by repeat (first | exact Und.refl _ | assumption | refine Und.under ?_ _ | refine Und.alloc ?_ _ | refine Und.drew ?_ | refine Und.drewN ?_ _)) : Und w2 _).trans hu5))) ?_ ?_; (· go_simp; done); intro w6 ⟨hp6, hb6, ht6⟩; have hT6 := (HT.out.und (HU2.out.trans (((by repeat (first | exact Und.refl _ | assumption | refine Und.under ?_ _ | refine Und.alloc ?_ _ | refine Und.drew ?_ | refine Und.drewN ?_ _)) : Und w2 _).trans hu5))).tk ht6))
          all_goals
            have hB6 := ((HU2.out.trans (((by repeat (first | exact Und.refl _ | assumption | refine Und.under ?_ _ | refine Und.alloc ?_ _ | refine Und.drew ?_ | refine Und.drewN ?_ _)) : Und w2 _).trans hu5)).below.mono hBw).trans hb6
            have HE := hid (And.intro hT6 (And.intro hp6 hB6))
            clear hT6 hp6 hB6 hb6 ht6 hw1 hw2 hw3
            go_wp2
            go_ret2
            refine ⟨HE.out.2.2, ?_⟩
            rw [if_neg (by simp; omega), if_neg (by rw [HDX.out]; simp), if_pos rfl]
            exact ⟨rfl, HE.out.1, by simpa using HE.out.2.1⟩
        · have keb : (er == 0) = false := by simpa using ke
          go_enter Tryz.func57, Tryz.ntmps57
          go_wp2_with fail
          refine (HDC.out _).mono ?_
          rintro e w2 ⟨A, c, rfl, _, _, _, hu2⟩
          have HU2 := hid hu2
          clear hu2
          go_wp2
          go_ret2
          refine ⟨(HU2.out.below.mono hBw), ?_⟩
          rw [if_neg (by simp; omega), if_pos ⟨rfl, by rw [HDX.out]; exact ke⟩, HDX.out]
          have ei : ((a + 1 + i : Nat) : Int) = (a : Int) + 1 + (i : Int) := by omega
          simp only [ei]
          rfl
    · have m2 : ((n : Int) == (col : Int)) = false := by simp; omega
      have hE : TfEnd w B tb pb d r cols col texts s a b n q (.returned (.tuple #[.int .i64 0, .int .i64 0])) w := ⟨Below.refl _ _, by rw [if_neg (by omega), if_neg (fun h => k2 h.1), if_neg k2]; exact ⟨rfl, HT.out, HP.out⟩⟩
      have HE := hid hE
      clear hE
      go_enter Tryz.func57, Tryz.ntmps57
      go_wp2
      go_ret2
      exact HE.out
end Go.Proofs.YtdchoobekngehaaGreatDoor
