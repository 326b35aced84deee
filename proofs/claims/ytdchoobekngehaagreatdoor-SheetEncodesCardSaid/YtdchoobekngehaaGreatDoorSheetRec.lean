/- The contract of the table's next at a later record. Condition: the table lies in a block of the call's own, the library's table of powers of ten in memory. -/
import Derived.Test.YtdchoobekngehaaGreatDoorSheetHead
namespace Go.Proofs.YtdchoobekngehaaGreatDoor
open Go.RowKit

namespace St
variable {dE : List UInt8 → Nat × Int} {d key : List UInt8} {W C fuel a n k : Nat} {q : Bool} {s : PS}
theorem rec_none (h : fieldL (d.drop a) = none) : recS dE d W C key (fuel + 1) a n s = .error (a, 2) := by
  rw [recS, h]
theorem rec_bad (h : fieldL (d.drop a) = some (k, q)) (hb : W ≤ n ∨ (n = C ∧ q = false)) : recS dE d W C key (fuel + 1) a n s = .error (a, 2) := by
  rw [recS, h]; simp only []; rw [if_pos hb]
theorem rec_dec (h : fieldL (d.drop a) = some (k, q)) (hb : ¬ (W ≤ n ∨ (n = C ∧ q = false))) (he : n = C ∧ (dE (cutL d (a + 1) (a + k - 1))).2 ≠ 0) : recS dE d W C key (fuel + 1) a n s = .error (a + 1 + (dE (cutL d (a + 1) (a + k - 1))).1, (dE (cutL d (a + 1) (a + k - 1))).2) := by
  rw [recS, h]; simp only []; rw [if_neg hb, if_pos he]
theorem rec_step (h : fieldL (d.drop a) = some (k, q)) (hb : ¬ (W ≤ n ∨ (n = C ∧ q = false))) (he : ¬ (n = C ∧ (dE (cutL d (a + 1) (a + k - 1))).2 ≠ 0)) : recS dE d W C key (fuel + 1) a n s = match d.drop (a + k) with
      | [] => .ok (a + k, n + 1, if n = C then unitS d s (a + 1) (a + k - 1) key else s)
      | c :: _ => if c.toNat = 10 then .ok (a + k, n + 1, if n = C then unitS d s (a + 1) (a + k - 1) key else s) else recS dE d W C key fuel (a + k + 1) (n + 1) (if n = C then unitS d s (a + 1) (a + k - 1) key else s) := by
  rw [recS, h]; simp only []; rw [if_neg hb, if_neg he]
  cases d.drop (a + k) <;> rfl
end St

def RcEnd (w : World) (B tb pb : Nat) (d : ByteArray) (r cols col texts a0 : Nat) (s : St.PS) (e : Ending) (w' : World) : Prop :=
  Below B w w' ∧ match St.recS dE d.data.toList cols col (Lib.decDigits r) (d.data.toList.length + 1) a0 0 s with
    | .error (a, er) => er ≠ 0 ∧ e = .returned (.tuple #[.int .i64 a, .int .i64 er])
    | .ok (en, n, s') => if n < cols then e = .returned (.tuple #[.int .i64 a0, .int .i64 2]) else
        e = .returned (.tuple #[.int .i64 (min (en + 1) d.size : Nat), .int .i64 0]) ∧ TV w' tb pb d r cols col texts ∧ PV w' B pb d s' ∧ s'.2 ≤ en ∧ en ≤ d.size ∧ a0 ≤ en ∧ s'.1.length ≤ 2 * (en + 1)
def NrRel (w : World) (B tb pb : Nat) (d : ByteArray) (r cols col texts a0 : Nat) (s : St.PS) (s6 s7 : Value) (wr : World) : Prop :=
  ∃ (a n fuel : Nat) (s1 : St.PS), s6 = .int .i64 a ∧ s7 = .int .i64 n ∧ a0 ≤ a ∧ a ≤ d.size ∧ n ≤ a ∧ d.size + 1 - a ≤ fuel ∧
    St.recS dE d.data.toList cols col (Lib.decDigits r) (d.data.toList.length + 1) a0 0 s = St.recS dE d.data.toList cols col (Lib.decDigits r) fuel a n s1 ∧ TV wr tb pb d r cols col texts ∧ PV wr B pb d s1 ∧ s1.2 ≤ a ∧ s1.1.length ≤ 2 * a ∧ Below B w wr

set_option maxRecDepth 20000 in
set_option maxHeartbeats 6400000 in
theorem next_rec (w w0 : World) (B tb pb : Nat) (d : ByteArray) (r cols col texts a0 : Nat) (s : St.PS) (hT : TV w tb pb d r cols col texts) (hP : PV w B pb d s) (ht : Tab w0) (hB0 : B = w0.heap.size) (h0 : Und w0 w) (hd : d.size ≤ 65536) (hr1 : 1 ≤ r) (hr : r ≤ 100000) (hc : cols ≤ 100000) (hcl : col ≤ 100000)
    (ha0 : a0 ≤ d.size) (hs2 : s.2 ≤ a0) (hsl : s.1.length ≤ 2 * a0) :
    Calls Tryz.prog 40 #[.pointer (some ⟨tb, 0, none⟩), .int .i64 a0] w (RcEnd w B tb pb d r cols col texts a0 s) := by
  have HT0 := hid hT
  have HP0 := hid hP
  have HTB := hid ht
  have H0 := hid h0
  have hBw : B ≤ w.heap.size := by rw [hB0]; exact h0.size
  have HB0 := hid hB0
  clear hT hP ht h0 hB0
  go_enter Tryz.func40, Tryz.ntmps40
  go_wp2
  go_loopw [6, 7] (fun s6 s7 wr => NrRel w B tb pb d r cols col texts a0 s s6 s7 wr) (fun s6 _ _ => d.size + 1 - (intOf s6).toNat)
  case atStart => exact ⟨a0, 0, d.data.toList.length + 1, s, rfl, rfl, by omega, by omega, by omega, by simp <;> omega, rfl, HT0.out, HP0.out, hs2, hsl, Below.refl _ _⟩
  case round =>
    obtain ⟨a, n, fuel, s1, rfl, rfl, haa, ha, hna, hfu, hH, hT, hP, hs3, hs4, hbl⟩ := hrel
    obtain ⟨fuel, rfl⟩ : ∃ m, fuel = m + 1 := ⟨fuel - 1, by omega⟩
    have hv := hT
    unfold TV at hv
    have c0 : wr.cell? ⟨tb, 0, none⟩ = some (.string d) := Lib.cell_of_heap hv 0
    have c2 : wr.cell? ⟨tb, 2, none⟩ = some (.int .i64 r) := Lib.cell_of_heap hv 2
    haveI : LtW tb wr := LtW.of (lt_of_heap hv)
    have HT := hid hT
    have HP := hid hP
    have HH := hid hH
    have HBL := hid hbl
    have HF := hid (field_any d a wr ha (by omega))
    have hBwr : B ≤ wr.heap.size := Nat.le_trans hBw hbl.size
    have h0r : Und w0 wr := by
      have e := HB0.out
      refine Und.of_below (Below.trans H0.out.below ?_)
      rw [← e]; exact hbl
    have H0R := hid h0r
    clear HT0 HP0 hv hT hP hH hbl h0r
    have r0 : ((r : Int) == 0) = false := by simp; omega
    have r1 : (0 : Int) < (r : Int) := by omega
    go_wp2_with fail
    refine HF.out.mono ?_
    rintro e w2 ⟨hu2, hm⟩
    have HU2 := hid hu2
    have g2 : w2.cell? ⟨tb, 2, none⟩ = some (.int .i64 r) := (hu2.cell (LtW.lt inferInstance)).trans c2
    haveI : LtW tb w2 := LtW.of (World.block_lt_of_cell? _ _ g2)
    clear hu2 c0 c2
    cases hs : St.fieldL (d.data.toList.drop a) with
    | none =>
      rw [hs] at hm
      obtain ⟨x, y, rfl⟩ := hm
      have hh := HH.out.trans (St.rec_none hs)
      have HH2 := hid hh
      clear hh hs HH HF
      go_wp2
      go_ret2
      refine ⟨HBL.out.trans (HU2.out.below.mono hBwr), ?_⟩
      rw [HH2.out]
      exact ⟨by decide, rfl⟩
    | some x =>
      obtain ⟨k, q⟩ := x
      rw [hs] at hm
      simp only at hm
      subst hm
      obtain ⟨hk1, hkq⟩ := St.field_len hs
      have hk2 : a + k ≤ d.size := by simp at hk1; omega
      have htf := tfield_any w2 w0 B tb pb d r cols col texts s1 a (a + k) n q (HT.out.und HU2.out) (HP.out.und HU2.out) HTB.out HB0.out (H0R.out.trans HU2.out) hs3 (by omega) hk2 (fun _ h => by have := hkq h; omega) hd hr hc hcl (by omega) (by omega)
      have hb1 := fun hb => HH.out.trans (St.rec_bad (dE := dE) (key := Lib.decDigits r) (fuel := fuel) (s := s1) hs (W := cols) (n := n) (C := col) hb)
      have hb2 := fun hb he => HH.out.trans (St.rec_dec (dE := dE) (key := Lib.decDigits r) (fuel := fuel) (s := s1) hs (W := cols) (n := n) (C := col) hb he)
      have hb3 := fun hb he => HH.out.trans (St.rec_step (dE := dE) (key := Lib.decDigits r) (fuel := fuel) (s := s1) hs (W := cols) (n := n) (C := col) hb he)
      have hma : a ≤ a + k := by omega
      have hmq : ∀ P : Prop, (n = col → q = true → a + 2 ≤ a + k) := fun _ _ h => by have := hkq h; omega
      generalize hm : a + k = m at hk2 htf hb1 hb2 hb3 hma ⊢
      have HTF := hid htf
      have HB1 := hid hb1
      have HB2 := hid hb2
      have HB3 := hid hb3
      clear htf hb1 hb2 hb3 hs HH HF hk1 hkq hmq hm
      go_wp2_with fail
      refine HTF.out.mono ?_
      rintro e w3 ⟨hbl3, hm⟩
      have hB3 : Below B w w3 := (HBL.out.trans (HU2.out.below.mono hBwr)).trans hbl3
      have HBL3 := hid hB3
      clear hbl3 hB3
      split at hm
      · rename_i hb
        subst hm
        have HH2 := hid (HB1.out hb)
        clear hb g2
        go_wp2
        go_ret2
        refine ⟨HBL3.out, ?_⟩
        rw [HH2.out]
        exact ⟨by decide, rfl⟩
      · rename_i hb
        split at hm
        · rename_i he
          subst hm
          have HH2 := hid (HB2.out hb he)
          have hne := he.2
          generalize dE (St.cutL d.data.toList (a + 1) (m - 1)) = ev at HH2 hne
          obtain ⟨ei, er⟩ := ev
          have hnb : (er == 0) = false := by simpa using hne
          have HNE := hid hne
          clear hb he hne g2
          go_wp2
          go_ret2
          refine ⟨HBL3.out, ?_⟩
          rw [HH2.out]
          exact ⟨HNE.out, by rfl⟩
        · rename_i he
          obtain ⟨rfl, hT3, hP3⟩ := hm
          have HH2 := hid (HB3.out hb he)
          have hs5 : (if n = col then St.unitS d.data.toList s1 (a + 1) (m - 1) (Lib.decDigits r) else s1).2 ≤ m := by
            split
            · show m - 1 ≤ m; omega
            · omega
          have hs6 : (if n = col then St.unitS d.data.toList s1 (a + 1) (m - 1) (Lib.decDigits r) else s1).1.length ≤ 2 * (a + 1) := by
            split
            · show (s1.1 ++ [_, _]).length ≤ _; simp; omega
            · omega
          have hncols : n < cols := by omega
          generalize (if n = col then St.unitS d.data.toList s1 (a + 1) (m - 1) (Lib.decDigits r) else s1) = s2 at HH2 hP3 hs5 hs6
          have hv := hT3
          unfold TV at hv
          have d0 : w3.cell? ⟨tb, 0, none⟩ = some (.string d) := Lib.cell_of_heap hv 0
          have d2 : w3.cell? ⟨tb, 2, none⟩ = some (.int .i64 r) := Lib.cell_of_heap hv 2
          have d3 : w3.cell? ⟨tb, 3, none⟩ = some (.int .i64 cols) := Lib.cell_of_heap hv 3
          haveI : LtW tb w3 := LtW.of (lt_of_heap hv)
          have HE := hid (And.intro hT3 (And.intro hP3 HBL3.out))
          clear hv hT3 hP3 g2 HT HP hb he HTF HB1 HB2 HB3
          rcases Nat.lt_or_ge m d.size with hml | hml
          · have hcons := St.drop_at d m hml
            have y1 : ((m : Int) == (d.size : Int)) = false := by simp; omega
            have y3 : (m : Int) < d.size := by omega
            by_cases c10 : d[m].toNat = 10
            · have y2 : ((d[m].toNat : Int) == 10) = true := by simp; omega
              have hh3 := HH2.out
              rw [hcons] at hh3
              simp only [c10, if_true] at hh3
              have HH3 := hid hh3
              clear hh3 hcons HH2
              by_cases hw : n + 1 < cols
              · have hw' : (n : Int) + 1 < (cols : Int) := by omega
                go_wp2
                go_ret2
                refine ⟨HE.out.2.2, ?_⟩
                rw [HH3.out]
                simp only []
                rw [if_pos hw]
                rfl
              · have hw' : ¬ (n : Int) + 1 < (cols : Int) := by omega
                go_wp2
                go_ret2
                refine ⟨HE.out.2.2, ?_⟩
                rw [HH3.out]
                simp only []
                rw [if_neg hw]
                have emin : ((min (m + 1) d.size : Nat) : Int) = min ((m : Int) + 1) (d.size : Int) := by omega
                exact ⟨by rw [emin]; rfl, HE.out.1, HE.out.2.1, hs5, by omega, by omega, by omega⟩
            · have y2 : ((d[m].toNat : Int) == 10) = false := by simp; omega
              have hh3 := HH2.out
              rw [hcons] at hh3
              simp only [c10, if_false] at hh3
              have HH3 := hid hh3
              clear hh3 hcons HH2
              go_wp2
              exact ⟨⟨m + 1, n + 1, fuel, s2, congrArg (Value.int .i64) (by omega), congrArg (Value.int .i64) (by omega), by omega, by omega, by omega, by omega, HH3.out, HE.out.1, HE.out.2.1, by omega, by omega, HE.out.2.2⟩, by simp [intOf]; omega⟩
          · have hme : m = d.size := by omega
            have hnil := St.drop_all d m hml
            have y1 : ((m : Int) == (d.size : Int)) = true := by simp; omega
            have hh3 := HH2.out
            rw [hnil] at hh3
            simp only [] at hh3
            have HH3 := hid hh3
            clear hh3 hnil HH2
            by_cases hw : n + 1 < cols
            · have hw' : (n : Int) + 1 < (cols : Int) := by omega
              go_wp2
              go_ret2
              refine ⟨HE.out.2.2, ?_⟩
              rw [HH3.out]
              simp only []
              rw [if_pos hw]
              rfl
            · have hw' : ¬ (n : Int) + 1 < (cols : Int) := by omega
              go_wp2
              go_ret2
              refine ⟨HE.out.2.2, ?_⟩
              rw [HH3.out]
              simp only []
              rw [if_neg hw]
              have emin : ((min (m + 1) d.size : Nat) : Int) = min ((d.size : Int) + 1) (d.size : Int) := by omega
              exact ⟨by rw [emin]; rfl, HE.out.1, HE.out.2.1, hs5, by omega, by omega, by omega⟩
end Go.Proofs.YtdchoobekngehaaGreatDoor
