/- The contract of the table's next at the header. Condition: the table lies in a block of the call's own. -/
import Derived.Test.YtdchoobekngehaaGreatDoorSheetFld
namespace Go.Proofs.YtdchoobekngehaaGreatDoor
open Go.RowKit

namespace St
theorem quoted_len : ∀ (m : Nat) (l : List UInt8) (n : Nat), l.length ≤ m → quotedL l = some n → 1 ≤ n ∧ n ≤ l.length
  | 0, l, n, hl, h => by
    have h0 : l = [] := List.eq_nil_of_length_eq_zero (by omega)
    subst h0; cases h
  | m + 1, [], n, hl, h => by cases h
  | m + 1, c :: r, n, hl, h => by
    by_cases hc : c.toNat = 34
    · cases r with
      | nil => rw [quoted_last hc] at h; cases h; simp
      | cons d r =>
        by_cases hd : d.toNat = 34
        · rw [quoted_two hc hd] at h
          cases hq : quotedL r with
          | none => rw [hq] at h; cases h
          | some k =>
            rw [hq] at h
            have := quoted_len m r k (by simp at hl; omega) hq
            simp at h; simp; omega
        · rw [quoted_end hc hd] at h; cases h; simp
    · rw [quoted_plain hc] at h
      cases hq : quotedL r with
      | none => rw [hq] at h; cases h
      | some k =>
        rw [hq] at h
        have := quoted_len m r k (by simp at hl; omega) hq
        simp at h; simp; omega
theorem field_len {l : List UInt8} {k : Nat} {q : Bool} (h : fieldL l = some (k, q)) : k ≤ l.length ∧ (q = true → 2 ≤ k) := by
  cases l with
  | nil => rw [field_nil] at h; simp at h; obtain ⟨rfl, rfl⟩ := h; simp
  | cons c r =>
    by_cases hc : c.toNat = 34
    · rw [field_q hc] at h
      cases hq : quotedL r with
      | none => rw [hq] at h; cases h
      | some n =>
        rw [hq] at h
        simp only at h
        split at h
        · simp only [Option.some.injEq, Prod.mk.injEq] at h
          obtain ⟨rfl, rfl⟩ := h
          have := quoted_len _ r n (Nat.le_refl _) hq
          simp; omega
        · cases h
    · rw [field_b (fun c' r' e => by simp only [List.cons.injEq] at e; rw [← e.1]; exact hc)] at h
      split at h
      · simp only [Option.some.injEq, Prod.mk.injEq] at h
        obtain ⟨rfl, rfl⟩ := h
        refine ⟨?_, fun h => by cases h⟩
        exact (List.takeWhile_prefix _).length_le
      · cases h
theorem head_none {d : List UInt8} {fuel a n tx col : Nat} (h : fieldL (d.drop a) = none) : headS d (fuel + 1) a n tx col = .error (a, 2) := by
  rw [headS, h]
theorem head_step {d : List UInt8} {fuel a n tx col k : Nat} {q : Bool} (h : fieldL (d.drop a) = some (k, q)) : headS d (fuel + 1) a n tx col = match d.drop (a + k) with
      | [] => .ok (a + k, n + 1, (if cutL d a (a + k) == [116, 101, 120, 116] then tx + 1 else tx), (if cutL d a (a + k) == [116, 101, 120, 116] then n else col))
      | c :: _ => if c.toNat = 10 then .ok (a + k, n + 1, (if cutL d a (a + k) == [116, 101, 120, 116] then tx + 1 else tx), (if cutL d a (a + k) == [116, 101, 120, 116] then n else col)) else headS d fuel (a + k + 1) (n + 1) (if cutL d a (a + k) == [116, 101, 120, 116] then tx + 1 else tx) (if cutL d a (a + k) == [116, 101, 120, 116] then n else col) := by
  rw [headS, h]
  simp only []
  cases d.drop (a + k) <;> rfl
end St

def HdEnd (w : World) (B tb pb : Nat) (d : ByteArray) (e : Ending) (w' : World) : Prop :=
  Below B w w' ∧ match St.headS d.data.toList (d.data.toList.length + 1) 0 0 0 0 with
    | .error (a, er) => er ≠ 0 ∧ e = .returned (.tuple #[.int .i64 a, .int .i64 er])
    | .ok (en, n, tx, col) => if tx = 0 then e = .returned (.tuple #[.int .i64 0, .int .i64 6]) else if 1 < tx then e = .returned (.tuple #[.int .i64 0, .int .i64 5]) else
        e = .returned (.tuple #[.int .i64 (min (en + 1) d.size : Nat), .int .i64 0]) ∧ TV w' tb pb d 0 n col tx ∧ PV w' B pb d ([], 0) ∧ n ≤ 100000 ∧ col ≤ 100000 ∧ en ≤ d.size
def NhRel (w : World) (B tb pb : Nat) (d : ByteArray) (s6 s7 : Value) (wr : World) : Prop :=
  ∃ a n tx col fuel : Nat, s6 = .int .i64 a ∧ s7 = .int .i64 n ∧ a ≤ d.size ∧ n ≤ a ∧ tx ≤ n ∧ col ≤ n ∧ d.size + 1 - a ≤ fuel ∧ St.headS d.data.toList (d.data.toList.length + 1) 0 0 0 0 = St.headS d.data.toList fuel a n tx col ∧ TV wr tb pb d 0 n col tx ∧ PV wr B pb d ([], 0) ∧ Below B w wr

set_option maxRecDepth 20000 in
set_option maxHeartbeats 6400000 in
theorem next_head (w : World) (B tb pb : Nat) (d : ByteArray) (hT : TV w tb pb d 0 0 0 0) (hP : PV w B pb d ([], 0)) (hB : B ≤ tb) (hBw : B ≤ w.heap.size) (hd : d.size ≤ 65536) :
    Calls Tryz.prog 40 #[.pointer (some ⟨tb, 0, none⟩), .int .i64 0] w (HdEnd w B tb pb d) := by
  have HT0 := hid hT
  have HP0 := hid hP
  clear hT hP
  go_enter Tryz.func40, Tryz.ntmps40
  go_wp2
  go_loopw [6, 7] (fun s6 s7 wr => NhRel w B tb pb d s6 s7 wr) (fun s6 _ _ => d.size + 1 - (intOf s6).toNat)
  case atStart => exact ⟨0, 0, 0, 0, d.data.toList.length + 1, rfl, rfl, by omega, by omega, by omega, by omega, by simp, rfl, HT0.out, HP0.out, Below.refl _ _⟩
  case round =>
    obtain ⟨a, n, tx, col, fuel, rfl, rfl, ha, hna, htx, hcol, hfu, hH, hT, hP, hbl⟩ := hrel
    obtain ⟨fuel, rfl⟩ : ∃ m, fuel = m + 1 := ⟨fuel - 1, by omega⟩
    have hv := hT
    unfold TV at hv
    have c0 : wr.cell? ⟨tb, 0, none⟩ = some (.string d) := Lib.cell_of_heap hv 0
    have c2 : wr.cell? ⟨tb, 2, none⟩ = some (.int .i64 (0 : Nat)) := Lib.cell_of_heap hv 2
    haveI : LtW tb wr := LtW.of (lt_of_heap hv)
    have HT := hid hT
    have HP := hid hP
    have HH := hid hH
    have HBL := hid hbl
    have HF := hid (field_any d a wr ha (by omega))
    have hBwr : B ≤ wr.heap.size := Nat.le_trans hBw hbl.size
    clear HT0 HP0 hv hT hP hH hbl
    go_wp2_with fail
    refine HF.out.mono ?_
    rintro e w2 ⟨hu2, hm⟩
    have HU2 := hid hu2
    have g2 : w2.cell? ⟨tb, 2, none⟩ = some (.int .i64 (0 : Nat)) := (hu2.cell (LtW.lt inferInstance)).trans c2
    haveI : LtW tb w2 := LtW.of (World.block_lt_of_cell? _ _ g2)
    clear hu2 c0 c2
    cases hs : St.fieldL (d.data.toList.drop a) with
    | none =>
      rw [hs] at hm
      obtain ⟨x, y, rfl⟩ := hm
      have hh := HH.out.trans (St.head_none hs)
      have HH2 := hid hh
      clear hh hs HH HF
      go_wp2
      go_ret2
      refine ⟨HBL.out.trans (HU2.out.below.mono hBwr), ?_⟩
      rw [HH2.out]
      exact ⟨by decide, rfl⟩
    | some x =>
      obtain ⟨k, q⟩ := x
      rw [hs] at hm
      simp only at hm
      subst hm
      obtain ⟨hk1, _⟩ := St.field_len hs
      have hk2 : a + k ≤ d.size := by simp at hk1; omega
      have hh := HH.out.trans (St.head_step hs)
      have hhd := header_any w2 tb pb d n col tx a (a + k) n (HT.out.und HU2.out) (by omega) hk2 (by omega) (by omega) (by omega)
      have hc2b : (if St.cutL d.data.toList a (a + k) == [116, 101, 120, 116] then n else col) ≤ n + 1 := by split <;> omega
      have ht2b : (if St.cutL d.data.toList a (a + k) == [116, 101, 120, 116] then tx + 1 else tx) ≤ n + 1 := by split <;> omega
      generalize (if St.cutL d.data.toList a (a + k) == [116, 101, 120, 116] then n else col) = col2 at hh hhd hc2b
      generalize (if St.cutL d.data.toList a (a + k) == [116, 101, 120, 116] then tx + 1 else tx) = tx2 at hh hhd ht2b
      have hma : a ≤ a + k := by omega
      generalize hm : a + k = m at hk2 hh hhd hma ⊢
      have HHD := hid hhd
      have HH2 := hid hh
      clear hh hhd hs HH HF hk1 hm
      go_wp2_with fail
      refine HHD.out.mono ?_
      rintro e w3 ⟨rfl, hT3, hg3⟩
      have hP3 := (HP.out.und HU2.out).tab (HT.out.und HU2.out) hg3
      have hB3 : Below B w w3 := (HBL.out.trans (HU2.out.below.mono hBwr)).grown hg3 (Nat.le_trans hBwr HU2.out.size) (fun g e => by cases e; exact hB)
      have hv := hT3
      unfold TV at hv
      have d0 : w3.cell? ⟨tb, 0, none⟩ = some (.string d) := Lib.cell_of_heap hv 0
      have d2 : w3.cell? ⟨tb, 2, none⟩ = some (.int .i64 (0 : Nat)) := Lib.cell_of_heap hv 2
      have d3 : w3.cell? ⟨tb, 3, none⟩ = some (.int .i64 (n + 1 : Nat)) := Lib.cell_of_heap hv 3
      have d5 : w3.cell? ⟨tb, 5, none⟩ = some (.int .i64 tx2) := Lib.cell_of_heap hv 5
      haveI : LtW tb w3 := LtW.of (lt_of_heap hv)
      have HE := hid (And.intro hT3 (And.intro hP3 hB3))
      clear hv hT3 hg3 hP3 hB3 g2 HT HP HHD
      rcases Nat.lt_or_ge m d.size with hml | hml
      · have hcons := St.drop_at d m hml
        have y1 : ((m : Int) == (d.size : Int)) = false := by simp; omega
        have y3 : (m : Int) < d.size := by omega
        by_cases c10 : d[m].toNat = 10
        · have y2 : ((d[m].toNat : Int) == 10) = true := by simp; omega
          have hh3 := HH2.out
          rw [hcons] at hh3
          simp only [c10, if_true] at hh3
          have HH3 := hid hh3
          clear hh3 hcons HH2
          rcases (show tx2 = 0 ∨ tx2 = 1 ∨ 1 < tx2 by omega) with q0 | q1 | q2
          · subst q0
            go_wp2
            go_ret2
            refine ⟨HE.out.2.2, ?_⟩
            rw [HH3.out]
            rfl
          · subst q1
            go_wp2
            go_ret2
            refine ⟨HE.out.2.2, ?_⟩
            rw [HH3.out]
            simp only []
            rw [if_neg (by omega), if_neg (by omega)]
            have emin : ((min (m + 1) d.size : Nat) : Int) = min ((m : Int) + 1) (d.size : Int) := by omega
            exact ⟨by rw [emin]; rfl, HE.out.1, HE.out.2.1, by omega, by omega, by omega⟩
          · have q2' : (1 : Int) < (tx2 : Int) := by omega
            have q3' : ((tx2 : Int) == 0) = false := by simp; omega
            go_wp2
            go_ret2
            refine ⟨HE.out.2.2, ?_⟩
            rw [HH3.out]
            simp only []
            rw [if_neg (by omega), if_pos q2]
            rfl
        · have y2 : ((d[m].toNat : Int) == 10) = false := by simp; omega
          have hh3 := HH2.out
          rw [hcons] at hh3
          simp only [c10, if_false] at hh3
          have HH3 := hid hh3
          clear hh3 hcons HH2
          go_wp2
          exact ⟨⟨m + 1, n + 1, tx2, col2, fuel, congrArg (Value.int .i64) (by omega), congrArg (Value.int .i64) (by omega), by omega, by omega, ht2b, hc2b, by omega, HH3.out, HE.out.1, HE.out.2.1, HE.out.2.2⟩, by simp [intOf]; omega⟩
      · have hme : m = d.size := by omega
        have hnil := St.drop_all d m hml
        have y1 : ((m : Int) == (d.size : Int)) = true := by simp; omega
        have hh3 := HH2.out
        rw [hnil] at hh3
        simp only [] at hh3
        have HH3 := hid hh3
        clear hh3 hnil HH2
        rcases (show tx2 = 0 ∨ tx2 = 1 ∨ 1 < tx2 by omega) with q0 | q1 | q2
        · subst q0
          go_wp2
          go_ret2
          refine ⟨HE.out.2.2, ?_⟩
          rw [HH3.out]
          rfl
        · subst q1
          go_wp2
          go_ret2
          refine ⟨HE.out.2.2, ?_⟩
          rw [HH3.out]
          simp only []
          rw [if_neg (by omega), if_neg (by omega)]
          have emin : ((min (m + 1) d.size : Nat) : Int) = min ((d.size : Int) + 1) (d.size : Int) := by omega
          exact ⟨by rw [emin]; rfl, HE.out.1, HE.out.2.1, by omega, by omega, by omega⟩
        · have q2' : (1 : Int) < (tx2 : Int) := by omega
          have q3' : ((tx2 : Int) == 0) = false := by simp; omega
          go_wp2
          go_ret2
          refine ⟨HE.out.2.2, ?_⟩
          rw [HH3.out]
          simp only []
          rw [if_neg (by omega), if_pos q2]
          rfl
end Go.Proofs.YtdchoobekngehaaGreatDoor
