/- The contract of sheet's Split: what it gives is St.splitS. Condition: the library's table of powers of ten in memory. -/
import Derived.Test.YtdchoobekngehaaGreatDoorSheetRec
namespace Go.Proofs.YtdchoobekngehaaGreatDoor
open Go.RowKit

theorem newParts_any (d : ByteArray) (w : World) : Calls Tryz.prog 39 #[.string d] w fun e w' => e = .returned (.pointer (some ⟨w.heap.size, 0, none⟩)) ∧ w' = w.alloc (.cells #[.string d, .int .i64 0, .slice none 0 0] 112) := by
  go_enter Tryz.func39, Tryz.ntmps39
  go_wp2
  go_ret
  exact ⟨rfl, rfl⟩

namespace St
variable {dE : List UInt8 → Nat × Int} {dig : Nat → List UInt8} {d : List UInt8} {W C : Nat}
theorem recs_end (fuel a r : Nat) (s : PS) (h : d.length ≤ a) : recsS dE dig d W C fuel a r s = .ok s := by
  cases fuel with
  | zero => rfl
  | succ f => rw [recsS, if_pos h]
theorem recs_min (fuel e r : Nat) (s : PS) (he : e ≤ d.length) : recsS dE dig d W C fuel (e + 1) r s = recsS dE dig d W C fuel (min (e + 1) d.length) r s := by
  by_cases h : e + 1 ≤ d.length
  · rw [Nat.min_eq_left h]
  · rw [recs_end _ _ _ _ (by omega), recs_end _ _ _ _ (by omega)]
theorem recs_err {fuel a r : Nat} {s : PS} {x : Nat × Int} (h : ¬ d.length ≤ a) (hr : recS dE d W C (dig r) (d.length + 1) a 0 s = .error x) : recsS dE dig d W C (fuel + 1) a r s = .error x := by
  rw [recsS, if_neg h, hr]
theorem recs_few {fuel a r e n : Nat} {s s' : PS} (h : ¬ d.length ≤ a) (hr : recS dE d W C (dig r) (d.length + 1) a 0 s = .ok (e, n, s')) (hn : n < W) : recsS dE dig d W C (fuel + 1) a r s = .error (a, 2) := by
  rw [recsS, if_neg h, hr]; simp only []; rw [if_pos hn]
theorem recs_ok {fuel a r e n : Nat} {s s' : PS} (h : ¬ d.length ≤ a) (hr : recS dE d W C (dig r) (d.length + 1) a 0 s = .ok (e, n, s')) (hn : ¬ n < W) (he : e ≤ d.length) : recsS dE dig d W C (fuel + 1) a r s = recsS dE dig d W C fuel (min (e + 1) d.length) (r + 1) s' := by
  rw [recsS, if_neg h, hr]; simp only []; rw [if_neg hn, recs_min _ _ _ _ he]
theorem split_err {a : Nat} {er : Int} (h0 : ¬ 65536 < d.length) (h : headS d (d.length + 1) 0 0 0 0 = .error (a, er)) : splitS dE dig d = ([], a, er) := by
  rw [splitS, if_neg h0, h]
theorem split_none {e n tx c : Nat} (h0 : ¬ 65536 < d.length) (h : headS d (d.length + 1) 0 0 0 0 = .ok (e, n, tx, c)) (ht : tx = 0) : splitS dE dig d = ([], 0, 6) := by
  rw [splitS, if_neg h0, h]; simp only []; rw [if_pos ht]
theorem split_many {e n tx c : Nat} (h0 : ¬ 65536 < d.length) (h : headS d (d.length + 1) 0 0 0 0 = .ok (e, n, tx, c)) (ht : tx ≠ 0) (ht2 : 1 < tx) : splitS dE dig d = ([], 0, 5) := by
  rw [splitS, if_neg h0, h]; simp only []; rw [if_neg ht, if_pos ht2]
def endR (d : List UInt8) : Except (Nat × Int) PS → List Pt × Nat × Int
  | .error (a, e) => ([], a, e)
  | .ok s => (endS d s, 0, 0)
theorem split_ok {e n tx c : Nat} (h0 : ¬ 65536 < d.length) (h : headS d (d.length + 1) 0 0 0 0 = .ok (e, n, tx, c)) (ht : tx ≠ 0) (ht2 : ¬ 1 < tx) (he : e ≤ d.length) : splitS dE dig d = endR d (recsS dE dig d n c (d.length + 1) (min (e + 1) d.length) 1 ([], 0)) := by
  rw [splitS, if_neg h0, h]; simp only []; rw [if_neg ht, if_neg ht2, recs_min _ _ _ _ he]
  cases recsS dE dig d n c (d.length + 1) (min (e + 1) d.length) 1 ([], 0) <;> rfl
end St

/-- The parts of a table, the place of an error, the error. -/
def sheetS (d : ByteArray) : List St.Pt × Nat × Int := St.splitS dE Lib.decDigits d.data.toList
def SplitEnd (R : List St.Pt × Nat × Int) (w : World) (e : Ending) (w' : World) : Prop :=
  ∃ (A : Option Addr) (c : Nat), e = .returned (.tuple #[.slice A R.1.length c, .int .i64 (R.2.1 : Int), .int .i64 R.2.2]) ∧ PartsAt w' A R.1 ∧ R.1.length ≤ c ∧ c ≤ 9223372036854775807 ∧ Und w w'
theorem SplitEnd.err {R : List St.Pt × Nat × Int} {w w' : World} {a : Nat} {er : Int} (h : R = ([], a, er)) (u : Und w w') : SplitEnd R w (.returned (.tuple #[.slice none 0 0, .int .i64 a, .int .i64 er])) w' := by
  subst h
  exact ⟨none, 0, rfl, fun h => absurd h (by simp), by simp, by omega, u⟩
def SpRel (w : World) (d : ByteArray) (s3 : Value) (wr : World) : Prop :=
  Und w wr ∧ ((s3 = .int .i64 (0 : Nat) ∧ TV wr (w.heap.size + 1) w.heap.size d 0 0 0 0 ∧ PV wr w.heap.size w.heap.size d ([], 0)) ∨
    ∃ (a r cols col tx fuel : Nat) (s : St.PS), s3 = .int .i64 a ∧ a ≤ d.size ∧ 1 ≤ r ∧ r ≤ a + 1 ∧ cols ≤ 100000 ∧ col ≤ 100000 ∧ d.size - a < fuel ∧ s.2 ≤ a ∧ s.1.length ≤ 2 * (a + 1) ∧ (a < d.size → s.1.length ≤ 2 * a) ∧
      TV wr (w.heap.size + 1) w.heap.size d r cols col tx ∧ PV wr w.heap.size w.heap.size d s ∧ sheetS d = St.endR d.data.toList (St.recsS dE Lib.decDigits d.data.toList cols col fuel a r s))
open Classical in
noncomputable def spM (d : ByteArray) (s3 : Value) (wr : World) (g : Nat) : Nat := if wr.cell? ⟨g, 2, none⟩ = some (.int .i64 (0 : Nat)) then d.size + 2 else d.size + 1 - (intOf s3).toNat

theorem spM_pos {d : ByteArray} {s3 : Value} {wr : World} {g r : Nat} (h : wr.cell? ⟨g, 2, none⟩ = some (.int .i64 r)) (hr : 1 ≤ r) : spM d s3 wr g = d.size + 1 - (intOf s3).toNat := by
  unfold spM
  rw [if_neg]
  intro e
  rw [h] at e
  simp at e
  omega
theorem tab_inc {w : World} {tb pb : Nat} {d : ByteArray} {r cols col tx : Nat} (h : TV w tb pb d r cols col tx) (m : Int) (hm : m = ((r + 1 : Nat) : Int)) : TV (w.setCell ⟨tb, 2, none⟩ (.int .i64 m)) tb pb d (r + 1) cols col tx := by
  subst hm
  exact heap_setCell_same w tb 2 _ _ _ h

set_option maxRecDepth 20000 in
set_option maxHeartbeats 6400000 in
theorem ssplit_any (d : ByteArray) (w : World) (ht : Tab w) (hd63 : d.size ≤ 4611686018427387904) : Calls Tryz.prog 17 #[.string d] w (SplitEnd (sheetS d) w) := by
  have hlen := St.len_list d
  have HTB := hid ht
  by_cases hbig : 65536 < d.size
  · have hR : sheetS d = ([], 0, 3) := by unfold sheetS St.splitS; rw [if_pos (by omega)]
    have HR := hid hR
    have hb : (65536 : Int) < d.size := by omega
    clear hR ht hlen
    go_enter Tryz.func17, Tryz.ntmps17
    go_wp2
    go_ret3
    exact SplitEnd.err HR.out (Und.refl _)
  · have hb : ¬ (65536 : Int) < d.size := by omega
    have h0l : ¬ 65536 < d.data.toList.length := by omega
    have H0L := hid h0l
    have HLEN := hid hlen
    have hd : d.size ≤ 65536 := by omega
    clear ht hlen h0l
    have hP0 : PV ((w.alloc (.cells #[.string d, .int .i64 0, .slice none 0 0] 112)).alloc (.cells #[.string d, .pointer (some ⟨w.heap.size, 0, none⟩), .int .i64 0, .int .i64 0, .int .i64 0, .int .i64 0] 80)) w.heap.size w.heap.size d ([], 0) :=
      PV.und ⟨Nat.le_refl _, .slice none 0 0, heap_alloc_new w _, World.ownsRow_nil _ _ _ _⟩ ((Und.refl _).alloc _)
    have hT0 : TV ((w.alloc (.cells #[.string d, .int .i64 0, .slice none 0 0] 112)).alloc (.cells #[.string d, .pointer (some ⟨w.heap.size, 0, none⟩), .int .i64 0, .int .i64 0, .int .i64 0, .int .i64 0] 80)) (w.heap.size + 1) w.heap.size d 0 0 0 0 := by
      have := heap_alloc_new (w.alloc (.cells #[.string d, .int .i64 0, .slice none 0 0] 112)) (.cells #[.string d, .pointer (some ⟨w.heap.size, 0, none⟩), .int .i64 0, .int .i64 0, .int .i64 0, .int .i64 0] 80)
      simpa [TV] using this
    have hU0 : Und w ((w.alloc (.cells #[.string d, .int .i64 0, .slice none 0 0] 112)).alloc (.cells #[.string d, .pointer (some ⟨w.heap.size, 0, none⟩), .int .i64 0, .int .i64 0, .int .i64 0, .int .i64 0] 80)) := (by repeat (first | exact Und.refl _ | assumption | refine Und.under ?_ _ | refine Und.alloc ?_ _ | refine Und.drew ?_ | refine Und.drewN ?_ _))
    have HE0 := hid (And.intro hU0 (And.intro hT0 hP0))
    clear hP0 hT0 hU0
    go_enter Tryz.func17, Tryz.ntmps17
    go_wp2_with (go_at_call 39; refine (newParts_any d _).mono ?_; rintro e w' ⟨rfl, rfl⟩)
    go_loopw [3] (fun s3 wr => SpRel w d s3 wr) (fun s3 wr => spM d s3 wr (w.heap.size + 1))
    case atStart => exact ⟨HE0.out.1, .inl ⟨rfl, HE0.out.2.1, HE0.out.2.2⟩⟩
    case round =>
      obtain ⟨hu, hrel⟩ := hrel
      clear HE0
      have HU := hid hu
      have hsz := hu.size
      clear hu
      rcases hrel with ⟨rfl, hT, hP⟩ | ⟨a, r, cols, col, tx, fuel, s, rfl, ha, hr1, hr2, hc1, hc2, hfu, hs2, hs3, hs4, hT, hP, hS⟩
      · have hv := hT
        unfold TV at hv
        have c2 : wr.cell? ⟨w.heap.size + 1, 2, none⟩ = some (.int .i64 (0 : Nat)) := Lib.cell_of_heap hv 2
        have hmeas : spM d (.int .i64 (0 : Nat)) wr (w.heap.size + 1) = d.size + 2 := by unfold spM; rw [if_pos c2]
        haveI : LtW (w.heap.size + 1) wr := LtW.of (lt_of_heap hv)
        have HN := hid (next_head wr w.heap.size (w.heap.size + 1) w.heap.size d hT hP (by omega) hsz hd)
        have HM := hid hmeas
        clear hv hT hP hmeas
        by_cases z : 0 < d.size
        all_goals
          go_wp2_with fail
          refine HN.out.mono ?_
          rintro e w3 ⟨hbl, hm⟩
          have hu3 : Und w w3 := Und.of_below (Below.trans HU.out.below hbl)
          have HU3 := hid hu3
          clear hbl hu3 HN c2
          cases hh : St.headS d.data.toList (d.data.toList.length + 1) 0 0 0 0 with
          | error x =>
            obtain ⟨a, er⟩ := x
            rw [hh] at hm
            simp only at hm
            obtain ⟨her, rfl⟩ := hm
            have hR := hid (St.split_err (dE := dE) (dig := Lib.decDigits) H0L.out hh)
            have hnb : (er == 0) = false := by simpa using her
            clear her hh
            go_wp2
            go_ret3
            exact SplitEnd.err hR.out HU3.out
          | ok x =>
            obtain ⟨en, n, tx, col⟩ := x
            rw [hh] at hm
            simp only at hm
            split at hm
            · rename_i ht
              subst hm
              have hR := hid (St.split_none (dE := dE) (dig := Lib.decDigits) H0L.out hh ht)
              clear hh ht
              go_wp2
              go_ret3
              exact SplitEnd.err hR.out HU3.out
            · rename_i ht
              split at hm
              · rename_i ht2
                subst hm
                have hR := hid (St.split_many (dE := dE) (dig := Lib.decDigits) H0L.out hh ht ht2)
                clear hh ht ht2
                go_wp2
                go_ret3
                exact SplitEnd.err hR.out HU3.out
              · rename_i ht2
                obtain ⟨rfl, hT3, hP3, hn, hcol, hen⟩ := hm
                have hl := HLEN.out
                have hR := St.split_ok (dE := dE) (dig := Lib.decDigits) H0L.out hh ht ht2 (by omega)
                rw [hl] at hR
                have v2 : w3.cell? ⟨w.heap.size + 1, 2, none⟩ = some (.int .i64 (0 : Nat)) := Lib.cell_of_heap hT3 2
                have f2 : w3.frozen? ⟨w.heap.size + 1, 2, none⟩ = false := Lib.frozen_of_heap hT3 2
                haveI : LtW (w.heap.size + 1) w3 := LtW.of (lt_of_heap hT3)
                have hT4 := tab_inc hT3 1 rfl
                have hP4 := hP3.tab hT3 (gb_set w3 ⟨w.heap.size + 1, 2, none⟩ (.int .i64 1))
                have hu4 : Und w (w3.setCell ⟨w.heap.size + 1, 2, none⟩ (.int .i64 1)) := HU3.out.of_gb (gb_set w3 ⟨w.heap.size + 1, 2, none⟩ _) (fun g e => by cases e; exact Nat.le_succ _)
                have HE := hid (And.intro hR (And.intro hT4 (And.intro hP4 hu4)))
                have hmn : ((min (en + 1) d.size : Nat) : Int) = min ((en : Int) + 1) (d.size : Int) := by omega
                clear hR hT3 hT4 hP3 hP4 hu4 hh ht ht2 hl
                go_wp2
                refine ⟨⟨HE.out.2.2.2, .inr ⟨min (en + 1) d.size, 1, n, col, tx, d.size + 1, ([], 0), congrArg (Value.int .i64) (by omega), by omega, by omega, by omega, hn, hcol, by omega, by simp, by simp, by simp, HE.out.2.1, HE.out.2.2.1, HE.out.1⟩⟩, ?_⟩
                have hsp := spM_pos (r := 0 + 1) (d := d) (s3 := .int .i64 (min ((en : Int) + 1) (d.size : Int))) (Lib.cell_of_heap HE.out.2.1 2) (by omega)
                rw [hsp, HM.out]
                show d.size + 1 - (min ((en : Int) + 1) (d.size : Int)).toNat < d.size + 2
                omega
      · have hv := hT
        unfold TV at hv
        have c2 : wr.cell? ⟨w.heap.size + 1, 2, none⟩ = some (.int .i64 r) := Lib.cell_of_heap hv 2
        have c1 : wr.cell? ⟨w.heap.size + 1, 1, none⟩ = some (.pointer (some ⟨w.heap.size, 0, none⟩)) := Lib.cell_of_heap hv 1
        have hmeas : spM d (.int .i64 a) wr (w.heap.size + 1) = d.size + 1 - a := by rw [spM_pos c2 hr1]; rfl
        haveI : LtW (w.heap.size + 1) wr := LtW.of (lt_of_heap hv)
        have HM := hid hmeas
        have r0 : ((r : Int) == 0) = false := by simp; omega
        by_cases hlt : a < d.size
        · have HN := hid (next_rec wr w w.heap.size (w.heap.size + 1) w.heap.size d r cols col tx a s hT hP HTB.out rfl HU.out hd hr1 (by omega) hc1 hc2 ha hs2 (hs4 hlt))
          have HS := hid hS
          obtain ⟨fuel, rfl⟩ : ∃ m, fuel = m + 1 := ⟨fuel - 1, by omega⟩
          have z : (a : Int) < d.size := by omega
          have hal : ¬ d.data.toList.length ≤ a := by rw [HLEN.out]; omega
          have HAL := hid hal
          clear hv hT hP hmeas hS hs4 hal
          go_wp2_with fail
          refine HN.out.mono ?_
          rintro e w3 ⟨hbl, hm⟩
          have hu3 : Und w w3 := Und.of_below (Below.trans HU.out.below hbl)
          have HU3 := hid hu3
          clear hbl hu3 HN c2 c1
          cases hh : St.recS dE d.data.toList cols col (Lib.decDigits r) (d.data.toList.length + 1) a 0 s with
          | error x =>
            obtain ⟨a2, er⟩ := x
            rw [hh] at hm
            simp only at hm
            obtain ⟨her, rfl⟩ := hm
            have hR := hid (HS.out.trans (show St.endR d.data.toList (St.recsS dE Lib.decDigits d.data.toList cols col (fuel + 1) a r s) = ([], a2, er) by rw [St.recs_err HAL.out hh]; rfl))
            have hnb : (er == 0) = false := by simpa using her
            clear her hh
            go_wp2
            go_ret3
            exact SplitEnd.err hR.out HU3.out
          | ok x =>
            obtain ⟨en, n, s'⟩ := x
            rw [hh] at hm
            simp only at hm
            split at hm
            · rename_i hnc
              subst hm
              have hR := hid (HS.out.trans (show St.endR d.data.toList (St.recsS dE Lib.decDigits d.data.toList cols col (fuel + 1) a r s) = ([], a, 2) by rw [St.recs_few HAL.out hh hnc]; rfl))
              clear hh hnc
              go_wp2
              go_ret3
              exact SplitEnd.err hR.out HU3.out
            · rename_i hnc
              obtain ⟨rfl, hT3, hP3, h5, h6, h7, h8⟩ := hm
              have hl := HLEN.out
              have hR := HS.out
              rw [St.recs_ok HAL.out hh hnc (by omega), hl] at hR
              have v2 : w3.cell? ⟨w.heap.size + 1, 2, none⟩ = some (.int .i64 r) := Lib.cell_of_heap hT3 2
              have f2 : w3.frozen? ⟨w.heap.size + 1, 2, none⟩ = false := Lib.frozen_of_heap hT3 2
              haveI : LtW (w.heap.size + 1) w3 := LtW.of (lt_of_heap hT3)
              have hrr : ((r : Int) + 1) = ((r + 1 : Nat) : Int) := by omega
              have hT4 := tab_inc hT3 ((r : Int) + 1) hrr
              have hP4 := hP3.tab hT3 (gb_set w3 ⟨w.heap.size + 1, 2, none⟩ (.int .i64 ((r : Int) + 1)))
              have hu4 : Und w (w3.setCell ⟨w.heap.size + 1, 2, none⟩ (.int .i64 ((r : Int) + 1))) := HU3.out.of_gb (gb_set w3 ⟨w.heap.size + 1, 2, none⟩ _) (fun g e => by cases e; exact Nat.le_succ _)
              have HE := hid (And.intro hR (And.intro hT4 (And.intro hP4 hu4)))
              have hmn : ((min (en + 1) d.size : Nat) : Int) = min ((en : Int) + 1) (d.size : Int) := by omega
              clear hR hT3 hT4 hP3 hP4 hu4 hh hnc hl hrr
              go_wp2
              refine ⟨⟨HE.out.2.2.2, .inr ⟨min (en + 1) d.size, r + 1, cols, col, tx, fuel, s', congrArg (Value.int .i64) (by omega), by omega, by omega, by omega, hc1, hc2, by omega, by omega, by omega, by omega, HE.out.2.1, HE.out.2.2.1, HE.out.1⟩⟩, ?_⟩
              have hsp := spM_pos (r := r + 1) (d := d) (s3 := .int .i64 (min ((en : Int) + 1) (d.size : Int))) (Lib.cell_of_heap HE.out.2.1 2) (by omega)
              rw [hsp, HM.out]
              show d.size + 1 - (min ((en : Int) + 1) (d.size : Int)).toNat < d.size + 1 - a
              omega
        · have hae : a = d.size := by omega
          have HL := hid (list_any wr w.heap.size w.heap.size d s hP (by omega) (by omega) (by omega) hsz)
          have hR := hid (hS.trans (show St.endR d.data.toList (St.recsS dE Lib.decDigits d.data.toList cols col fuel a r s) = (St.endS d.data.toList s, 0, 0) by rw [St.recs_end _ _ _ _ (by rw [HLEN.out]; omega)]; rfl))
          have z : ¬ (a : Int) < d.size := by omega
          clear hv hT hP hmeas hS hs4
          go_wp2_with fail
          refine HL.out.mono ?_
          rintro e w3 ⟨A, c, rfl, hpa, hq1, hq2, hbl⟩
          have HE := hid (And.intro hpa (Und.of_below (Below.trans HU.out.below hbl)))
          have hq1' := hid hq1
          clear hpa hbl hq1 HL
          go_wp2
          go_ret3
          unfold SplitEnd
          rw [hR.out]
          exact ⟨A, c, by simp [St.endS], HE.out.1, by simpa [St.endS] using hq1'.out, hq2, HE.out.2⟩
end Go.Proofs.YtdchoobekngehaaGreatDoor
