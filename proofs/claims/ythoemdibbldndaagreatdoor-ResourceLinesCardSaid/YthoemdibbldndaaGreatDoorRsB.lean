/- The exact contracts of the makers Next, word, Line and Fragment without tags: what they give is a function of the numbers. Conditions: as MakeGen's. The exact contract of the maker Fragment without tags. Conditions: as MakeGen's. Plain: the pieces of a resource's raw value that the maker writes. No program in sight. The contracts of the law package's made, raws and changed. Conditions: the lists lie in memory. Plain: a resource's raw content of pieces is read to its items. No walk. Plain: two encoded fragments with a continuation between them, read and split. No program in sight. -/
import Derived.Test.YthoemdibbldndaaGreatDoorMakeFrag
import Derived.Test.YthoemdibbldndaaGreatDoorRsA
import Derived.Test.YthoemdibbldndaaGreatDoorRawsPl
import Derived.Test.YthoemdibbldndaaGreatDoorMakeRaws
import Derived.Lib.ConvBytes
import Derived.Test.YthoemdibbldndaaGreatDoorGoodPl
set_option linter.unusedVariables false
set_option linter.unusedSimpArgs false

namespace Go.Proofs.YthoemdibbldndaaGreatDoor
open Go.RowKit

/-- The next number. -/
def nextF (zs : List Int) (p m : Nat) : Nat := ((if p < zs.length then zs.getD p 0 else 0) % (m : Int)).toNat
theorem nextF_lt (zs : List Int) (p : Nat) {m : Nat} (h : 1 ≤ m) : nextF zs p m < m := by
  unfold nextF
  have h1 := Int.emod_nonneg (if p < zs.length then zs.getD p 0 else 0) (show (m : Int) ≠ 0 by omega)
  have h2 := Int.emod_lt_of_pos (if p < zs.length then zs.getD p 0 else 0) (show (0 : Int) < m by omega)
  omega
def wordsL : List ByteArray := [⟨#[114, 101, 100]⟩, ⟨#[99, 97, 114]⟩, ⟨#[82, 101, 100]⟩, ⟨#[97]⟩, ⟨#[99, 97, 114, 115]⟩, ⟨#[49, 44, 53]⟩, ⟨#[50, 50]⟩, ⟨#[100, 111, 110, 39, 116]⟩, ⟨#[46]⟩, ⟨#[33]⟩, ⟨#[32]⟩, ⟨#[32, 32]⟩, ⟨#[60]⟩, ⟨#[38]⟩, ⟨#[123]⟩, ⟨#[34]⟩, ⟨#[92]⟩, ⟨#[120, 45, 121]⟩, ⟨#[10]⟩, ⟨#[61]⟩, ⟨#[125]⟩, ⟨#[62]⟩, ⟨#[9]⟩, ⟨#[98]⟩]
def wordF (r : Nat) : ByteArray := wordsL.getD r ⟨#[]⟩
theorem word_at (r : Nat) (h : r < 24) : (#[.string ⟨#[114, 101, 100]⟩, .string ⟨#[99, 97, 114]⟩, .string ⟨#[82, 101, 100]⟩, .string ⟨#[97]⟩, .string ⟨#[99, 97, 114, 115]⟩, .string ⟨#[49, 44, 53]⟩, .string ⟨#[50, 50]⟩, .string ⟨#[100, 111, 110, 39, 116]⟩, .string ⟨#[46]⟩, .string ⟨#[33]⟩, .string ⟨#[32]⟩, .string ⟨#[32, 32]⟩, .string ⟨#[60]⟩, .string ⟨#[38]⟩, .string ⟨#[123]⟩, .string ⟨#[34]⟩, .string ⟨#[92]⟩, .string ⟨#[120, 45, 121]⟩, .string ⟨#[10]⟩, .string ⟨#[61]⟩, .string ⟨#[125]⟩, .string ⟨#[62]⟩, .string ⟨#[9]⟩, .string ⟨#[98]⟩] : Array Value)[r]? = some (.string (wordF r)) ∧ (wordF r).size ≤ 5 := by
  rcases (show r = 0 ∨ r = 1 ∨ r = 2 ∨ r = 3 ∨ r = 4 ∨ r = 5 ∨ r = 6 ∨ r = 7 ∨ r = 8 ∨ r = 9 ∨ r = 10 ∨ r = 11 ∨ r = 12 ∨ r = 13 ∨ r = 14 ∨ r = 15 ∨ r = 16 ∨ r = 17 ∨ r = 18 ∨ r = 19 ∨ r = 20 ∨ r = 21 ∨ r = 22 ∨ r = 23 by omega) with h | h | h | h | h | h | h | h | h | h | h | h | h | h | h | h | h | h | h | h | h | h | h | h <;> subst h <;> exact ⟨rfl, by decide⟩
/-- A text of i words more, from a text and a place on. -/
def lineGo (zs : List Int) : Nat → ByteArray → Nat → ByteArray × Nat
  | 0, t, p => (t, p)
  | i + 1, t, p => if t.data.toList = [] then lineGo zs i (t ++ wordF (nextF zs p 24)) (p + 1) else if 0 < nextF zs (p + 1) 3 then lineGo zs i (t ++ ⟨#[32]⟩ ++ wordF (nextF zs p 24)) (p + 2) else lineGo zs i (t ++ wordF (nextF zs p 24)) (p + 2)
def lineF (zs : List Int) (p n : Nat) : ByteArray × Nat := lineGo zs (nextF zs p (n + 1)) ⟨#[]⟩ (p + 1)
def slotsL : List ByteArray := [⟨#[110]⟩, ⟨#[110, 97, 109, 101]⟩, ⟨#[120, 49]⟩]
/-- A fragment of i items more. -/
def fragGo (zs : List Int) : Nat → List St.It → Nat → List St.It × Nat
  | 0, f, p => (f, p)
  | i + 1, f, p =>
    let t := lineF zs p 3
    if nextF zs t.2 8 < 2 then fragGo zs i (St.addI f (5, (slotsL.getD (nextF zs (t.2 + 1) 3) ⟨#[]⟩).data.toList, 0)) (t.2 + 2)
    else fragGo zs i (St.addI f (1, t.1.data.toList, 0)) (t.2 + 1)
def fragF (zs : List Int) (p n : Nat) : List St.It × Nat := fragGo zs (nextF zs p (n + 1)) [] (p + 1)

/-- A maker of numbers below B: block g holds the list and the place. -/
def GenX (w : World) (B g : Nat) (zs : List Int) (p : Nat) : Prop :=
  ∃ (A : Option Addr) (n c : Nat), g < B ∧ B ≤ w.heap.size ∧ n ≤ 9223372036854775807 ∧ w.cell? ⟨g, 0, none⟩ = some (.slice A n c) ∧ w.cell? ⟨g, 1, none⟩ = some (.int .i64 p) ∧ w.frozen? ⟨g, 1, none⟩ = false ∧ zs.length = n ∧
    (zs.length > 0 → ∃ b off, A = some ⟨b, off, none⟩ ∧ b < B ∧ b ≠ g ∧ ∀ i, i < zs.length → w.cell? ⟨b, off + i, none⟩ = some (.int .i64 (zs.getD i 0)))
theorem GenX.lt {w : World} {B g p : Nat} {zs : List Int} (h : GenX w B g zs p) : g < B ∧ B ≤ w.heap.size := by obtain ⟨_, _, _, h1, h2, _⟩ := h; exact ⟨h1, h2⟩
theorem GenX.gb {w w' : World} {B g p : Nat} {zs : List Int} {row : Option Nat} (h : GenX w B g zs p) (k : w.grownBy w' row) (hr : ∀ x, row = some x → B ≤ x) : GenX w' B g zs p := by
  obtain ⟨A, n, c, h1, h2, h4, h5, h6, h7, h8, h9⟩ := h
  have hne : ∀ b, b < B → some b ≠ row := fun b hb e => by have := hr b e.symm; omega
  refine ⟨A, n, c, h1, Nat.le_trans h2 k.size, h4, ?_, ?_, ?_, h8, fun h0 => ?_⟩
  · exact (gb_cell k (p := ⟨g, 0, none⟩) (Nat.lt_of_lt_of_le h1 h2) (hne g h1)).trans h5
  · exact (gb_cell k (p := ⟨g, 1, none⟩) (Nat.lt_of_lt_of_le h1 h2) (hne g h1)).trans h6
  · exact (gb_frozen k (p := ⟨g, 1, none⟩) (Nat.lt_of_lt_of_le h1 h2) (hne g h1)).trans h7
  · obtain ⟨b, off, e, hb, hbg, hc⟩ := h9 h0
    exact ⟨b, off, e, hb, hbg, fun i hi => (gb_cell k (p := ⟨b, off + i, none⟩) (Nat.lt_of_lt_of_le hb h2) (hne b hb)).trans (hc i hi)⟩
theorem GenX.und {w w' : World} {B g p : Nat} {zs : List Int} (h : GenX w B g zs p) (u : Und w w') : GenX w' B g zs p := h.gb (u.gb none) (fun _ e => by cases e)
theorem GenX.fresh {w : World} {A : Option Addr} {n c : Nat} {zs : List Int} {T : TypeId} (hn : n ≤ 9223372036854775807) (hz : zs.length = n) (h : IntsAt w A zs) : GenX (w.alloc (.cells #[.slice A n c, .int .i64 0] T)) (w.heap.size + 1) w.heap.size zs 0 := by
  refine ⟨A, n, c, by omega, by simp, hn, by simp, by simp, ?_, hz, fun h0 => ?_⟩
  · exact Lib.frozen_of_heap (heap_alloc_new w _) 1
  · obtain ⟨b, off, e, hb, hc⟩ := h h0
    refine ⟨b, off, e, by omega, by omega, fun i hi => ?_⟩
    exact (((Und.refl w).alloc _).cell (p := ⟨b, off + i, none⟩) hb).trans (hc i hi)

set_option maxHeartbeats 3200000 in
theorem next_genx (B g p : Nat) (zs : List Int) (m : Nat) (w : World) (hG : GenX w B g zs p) (hP : p ≤ 4611686018427387904) (h1 : 1 ≤ m) (h2 : m ≤ 4611686018427387904) (mi : Int) (hmi : mi = (m : Int)) :
    Calls Tryz.prog 64 #[.pointer (some ⟨g, 0, none⟩), .int .i64 mi] w fun e w' => e = .returned (.int .i64 (nextF zs p m : Nat)) ∧ GenX w' B g zs (p + 1) ∧ w.grownBy w' (some g) := by
  subst hmi
  have HG := hid hG
  obtain ⟨A, n, c, hgB, hB, hn, g0, g1, g2, hz, hI⟩ := hG
  have HZ := hid hz
  have H := hid hI
  have hg := World.block_lt_of_cell? _ _ g0
  haveI : LtW g w := LtW.of hg
  clear hI hz
  have fin : ∀ W : World, Und (w.setCell ⟨g, 1, none⟩ (.int .i64 ((p : Int) + 1))) W → GenX W B g zs (p + 1) ∧ w.grownBy W (some g) := by
    intro W hW
    have hset : GenX (w.setCell ⟨g, 1, none⟩ (.int .i64 ((p : Int) + 1))) B g zs (p + 1) := by
      obtain ⟨A, n, c, h1, h2, h4, h5, h6, h7, h8, h9⟩ := HG.out
      refine ⟨A, n, c, h1, by simpa using h2, h4, ?_, ?_, ?_, h8, fun h0 => ?_⟩
      · rw [← h5]; go_simp
      · go_simp
      · rw [← h7]; go_simp
      · obtain ⟨b, off, e, hb, hbg, hc⟩ := h9 h0
        refine ⟨b, off, e, hb, hbg, fun i hi => ?_⟩
        exact (gb_cell (gb_set w ⟨g, 1, none⟩ _) (p := ⟨b, off + i, none⟩) (Nat.lt_of_lt_of_le hb h2) (by simpa using hbg)).trans (hc i hi)
    exact ⟨hset.und hW, gb_und (gb_set w ⟨g, 1, none⟩ _) hW⟩
  have FIN := hid fin
  clear fin
  have hpos : (0 : Int) < (m : Int) := by omega
  by_cases hlt : p < n
  · obtain ⟨b, off, rfl, hb, hbg, hc⟩ := H.out (by rw [HZ.out]; omega)
    have hck := hc p (by rw [HZ.out]; omega)
    have hnf : ((nextF zs p m : Nat) : Int) = zs.getD p 0 % (m : Int) := by
      unfold nextF
      rw [if_pos (by rw [HZ.out]; exact hlt)]
      have := Int.emod_nonneg (zs.getD p 0) (show (m : Int) ≠ 0 by omega)
      omega
    have HNF := hid hnf
    clear hnf
    generalize zs.getD p 0 = z at hck HNF
    clear hc
    haveI : LtW b w := LtW.of (by omega)
    go_enter Tryz.func64, Tryz.ntmps64
    go_wp2_with fail
    first | refine wp_region_under2 (by kernel_rfl) (by kernel_rfl) ?_ | refine wp_region_under (by kernel_rfl) (by kernel_rfl) ?_
    repeat (go_big_quiet_step (first | (fail)))
    refine wpQuiet_nil ?_
    rintro _ ⟨X, rfl⟩
    go_wp2_with fail
    first | refine wp_region_under2 (by kernel_rfl) (by kernel_rfl) ?_ | refine wp_region_under (by kernel_rfl) (by kernel_rfl) ?_
    repeat (go_big_quiet_step (first | (fail)))
    refine wpQuiet_nil ?_
    rintro _ ⟨X, rfl⟩
    go_wp2_with (go_at_call 15; refine (place_any _ _ _ (by omega) (by omega)).mono ?_; rintro e w' ⟨rfl, rfl⟩)
    go_ret
    exact ⟨ret_int HNF.out.symm, (FIN.out _ (by repeat (first | exact Und.refl _ | assumption | refine Und.under ?_ _ | refine Und.alloc ?_ _ | refine Und.drew ?_ | refine Und.drewN ?_ _))).1, (FIN.out _ (by repeat (first | exact Und.refl _ | assumption | refine Und.under ?_ _ | refine Und.alloc ?_ _ | refine Und.drew ?_ | refine Und.drewN ?_ _))).2⟩
  · have hnf : ((nextF zs p m : Nat) : Int) = 0 := by
      unfold nextF
      rw [if_neg (by rw [HZ.out]; omega)]; simp
    have HNF := hid hnf
    clear hnf
    go_enter Tryz.func64, Tryz.ntmps64
    go_wp2_with fail
    first | refine wp_region_under2 (by kernel_rfl) (by kernel_rfl) ?_ | refine wp_region_under (by kernel_rfl) (by kernel_rfl) ?_
    repeat (go_big_quiet_step (first | (fail)))
    refine wpQuiet_nil ?_
    rintro _ ⟨X, rfl⟩
    go_wp2_with (go_at_call 15; refine (place_any _ _ _ (by omega) (by omega)).mono ?_; rintro e w' ⟨rfl, rfl⟩)
    go_ret
    exact ⟨ret_int (by rw [HNF.out]), (FIN.out _ (by repeat (first | exact Und.refl _ | assumption | refine Und.under ?_ _ | refine Und.alloc ?_ _ | refine Und.drew ?_ | refine Und.drewN ?_ _))).1, (FIN.out _ (by repeat (first | exact Und.refl _ | assumption | refine Und.under ?_ _ | refine Und.alloc ?_ _ | refine Und.drew ?_ | refine Und.drewN ?_ _))).2⟩

set_option maxHeartbeats 3200000 in
theorem word_genx (B g p : Nat) (zs : List Int) (w : World) (hG : GenX w B g zs p) (hP : p ≤ 4611686018427387904) :
    Calls Tryz.prog 147 #[.pointer (some ⟨g, 0, none⟩)] w fun e w' => e = .returned (.string (wordF (nextF zs p 24))) ∧ GenX w' B g zs (p + 1) ∧ w.grownBy w' (some g) := by
  have HG := hid hG
  obtain ⟨hgB, hB⟩ := hG.lt
  clear hG
  have hr' := nextF_lt zs p (m := 24) (by omega)
  go_enter Tryz.func147, Tryz.ntmps147
  go_wp2_with fail
  have hG1 := HG.out.und ((Und.refl w).alloc (.cells #[.string ⟨#[114, 101, 100]⟩, .string ⟨#[99, 97, 114]⟩, .string ⟨#[82, 101, 100]⟩, .string ⟨#[97]⟩, .string ⟨#[99, 97, 114, 115]⟩, .string ⟨#[49, 44, 53]⟩, .string ⟨#[50, 50]⟩, .string ⟨#[100, 111, 110, 39, 116]⟩, .string ⟨#[46]⟩, .string ⟨#[33]⟩, .string ⟨#[32]⟩, .string ⟨#[32, 32]⟩, .string ⟨#[60]⟩, .string ⟨#[38]⟩, .string ⟨#[123]⟩, .string ⟨#[34]⟩, .string ⟨#[92]⟩, .string ⟨#[120, 45, 121]⟩, .string ⟨#[10]⟩, .string ⟨#[61]⟩, .string ⟨#[125]⟩, .string ⟨#[62]⟩, .string ⟨#[9]⟩, .string ⟨#[98]⟩] 9))
  refine (next_genx B g p zs 24 _ hG1 hP (by omega) (by omega) 24 rfl).mono ?_
  rintro e w2 ⟨rfl, hG2, hk⟩
  obtain ⟨ht, hts⟩ := word_at _ hr'
  have hcell := lit_cell w w2 _ _ B g hk hgB hB _ _ ht
  have hkw : w.grownBy w2 (some g) := gb_trans (((Und.refl w).alloc _).gb (some g)) hk (fun _ e => .inl e)
  have HE := hid (And.intro hG2 hkw)
  have hsz : w.heap.size < w2.heap.size := by have := hk.size; simp at this; omega
  haveI : LtW w.heap.size w2 := LtW.of hsz
  generalize hrr : nextF zs p 24 = r at hcell hr'
  have HRR := hid hrr
  clear hrr
  clear hG1 hG2 hkw hk ht
  go_wp2
  go_ret
  exact ⟨by rw [HRR.out]; rfl, HE.out.1, HE.out.2⟩

def LnX (w : World) (B g P n : Nat) (zs : List Int) (s5 s6 : Value) (wr : World) : Prop := ∃ (i p : Nat) (t : ByteArray), s5 = .string t ∧ s6 = .int .i64 i ∧ i ≤ n ∧ t.size + 6 * i ≤ 6 * n ∧ p + 2 * i ≤ P + 1 + 2 * n ∧ lineF zs P n = lineGo zs i t p ∧ GenX wr B g zs p ∧ w.grownBy wr (some g)
theorem lineGo_size (zs : List Int) : ∀ (i : Nat) (t : ByteArray) (p : Nat), (lineGo zs i t p).1.size ≤ t.size + 6 * i ∧ (lineGo zs i t p).2 ≤ p + 2 * i
  | 0, t, p => ⟨by simp [lineGo], by simp [lineGo]⟩
  | i + 1, t, p => by
    have hw := (word_at (nextF zs p 24) (nextF_lt zs p (by omega))).2
    rw [lineGo]
    split
    · have := lineGo_size zs i (t ++ wordF (nextF zs p 24)) (p + 1)
      rw [ByteArray.size_append] at this; omega
    · split
      · have := lineGo_size zs i (t ++ ⟨#[32]⟩ ++ wordF (nextF zs p 24)) (p + 2)
        rw [ByteArray.size_append, ByteArray.size_append] at this
        have e : (⟨#[32]⟩ : ByteArray).size = 1 := rfl
        omega
      · have := lineGo_size zs i (t ++ wordF (nextF zs p 24)) (p + 2)
        rw [ByteArray.size_append] at this; omega
theorem lineF_size (zs : List Int) (p n : Nat) : (lineF zs p n).1.size ≤ 6 * n ∧ (lineF zs p n).2 ≤ p + 1 + 2 * n := by
  have h := lineGo_size zs (nextF zs p (n + 1)) ⟨#[]⟩ (p + 1)
  have h1 := nextF_lt zs p (m := n + 1) (by omega)
  have e : (⟨#[]⟩ : ByteArray).size = 0 := rfl
  unfold lineF
  omega
set_option maxRecDepth 20000 in
set_option maxHeartbeats 3200000 in
theorem line_genx (B g P n : Nat) (zs : List Int) (w : World) (hG : GenX w B g zs P) (hP : P ≤ 1000000) (hn : n ≤ 1000) :
    Calls Tryz.prog 106 #[.pointer (some ⟨g, 0, none⟩), .int .i64 n] w fun e w' => e = .returned (.string (lineF zs P n).1) ∧ GenX w' B g zs (lineF zs P n).2 ∧ w.grownBy w' (some g) := by
  have HG := hid hG
  have hr0 := nextF_lt zs P (m := n + 1) (by omega)
  clear hG
  go_enter Tryz.func106, Tryz.ntmps106
  go_wp2_with fail
  refine (next_genx B g P zs (n + 1) _ HG.out (by omega) (by omega) (by omega) _ (by omega)).mono ?_
  rintro e w2 ⟨rfl, hG2, hk⟩
  have HG2 := hid hG2
  have HK2 := hid hk
  have HLF := hid (show lineF zs P n = lineGo zs (nextF zs P (n + 1)) ⟨#[]⟩ (P + 1) from rfl)
  generalize nextF zs P (n + 1) = r at *
  clear hG2 hk HG
  go_wp2_with fail
  go_loopw [5, 6] (fun s5 s6 wr => LnX w B g P n zs s5 s6 wr) (fun _ s6 _ => (intOf s6).toNat)
  case atStart => exact ⟨r, P + 1, ⟨#[]⟩, rfl, rfl, by omega, by show 0 + _ ≤ _; omega, by omega, HLF.out, HG2.out, HK2.out⟩
  case round =>
    clear HG2 HK2 hr0 HLF
    obtain ⟨i, p, t, rfl, rfl, hin, hts, hpb, hlf, hG, hk⟩ := hrel
    have HG := hid hG
    have HK := hid hk
    have HLF := hid hlf
    clear hG hk hlf
    by_cases hi : 0 < i
    · have z : (0 : Int) < (i : Int) := by omega
      obtain ⟨j, rfl⟩ : ∃ j, i = j + 1 := ⟨i - 1, by omega⟩
      have hwz := (word_at (nextF zs p 24) (nextF_lt zs p (by omega))).2
      have hlf := HLF.out
      rw [lineGo] at hlf
      go_wp2_with fail
      refine (word_genx B g _ zs _ HG.out (by omega)).mono ?_
      rintro e w3 ⟨rfl, hG3, hk3⟩
      have HG3 := hid hG3
      have HK3 := hid (gb_trans HK.out hk3 (fun _ e => .inl e))
      generalize wordF (nextF zs p 24) = u at hwz hlf ⊢
      clear hG3 hk3 HG HK HLF
      by_cases hte : t = ⟨#[]⟩
      · subst hte
        have y1 : ¬ 9223372036854775807 < (⟨#[]⟩ : ByteArray).size + u.size := by show ¬ 9223372036854775807 < 0 + _; omega
        rw [if_pos rfl] at hlf
        have HLF := hid hlf
        clear hlf
        go_wp2
        refine ⟨⟨j, p + 1, _, rfl, congrArg (Value.int .i64) (by omega), by omega, ?_, by omega, HLF.out, HG3.out, HK3.out⟩, by simp [intOf]⟩
        rw [ByteArray.size_append]
        have e : (⟨#[]⟩ : ByteArray).size = 0 := rfl
        omega
      · have htl : ¬ t.data.toList = [] := fun e => hte (ByteArray.ext (by simpa using e))
        have hne : (t.toList == []) = false := by
          rw [Lib.toList_data]
          simpa using htl
        rw [if_neg htl] at hlf
        have HLF := hid hlf
        clear hte htl hlf
        have hr3 := nextF_lt zs (p + 1) (m := 3) (by omega)
        go_wp2_with fail
        refine (next_genx B g _ zs 3 _ HG3.out (by omega) (by omega) (by omega) 3 rfl).mono ?_
        rintro e w4 ⟨rfl, hG4, hk4⟩
        have HG4 := hid hG4
        have HK4 := hid (gb_trans HK3.out hk4 (fun _ e => .inl e))
        generalize nextF zs (p + 1) 3 = r at hr3 HLF ⊢
        clear hG4 hk4 HG3 HK3
        by_cases hr0 : 0 < r
        · have z2 : (0 : Int) < (r : Int) := by omega
          have y1 : ¬ 9223372036854775807 < t.size + 1 := by omega
          have y2 : ¬ 9223372036854775807 < t.size + 1 + u.size := by omega
          have hlf := HLF.out
          rw [if_pos hr0] at hlf
          have HLF2 := hid hlf
          clear hlf HLF
          go_wp2
          refine ⟨⟨j, p + 2, _, rfl, congrArg (Value.int .i64) (by omega), by omega, ?_, by omega, HLF2.out, HG4.out, HK4.out⟩, by simp [intOf]⟩
          rw [ByteArray.size_append, ByteArray.size_append]
          show _ + 1 + _ + _ ≤ _; omega
        · have z2 : ¬ (0 : Int) < (r : Int) := by omega
          have y1 : ¬ 9223372036854775807 < t.size + u.size := by omega
          have hlf := HLF.out
          rw [if_neg hr0] at hlf
          have HLF2 := hid hlf
          clear hlf HLF
          go_wp2
          refine ⟨⟨j, p + 2, _, rfl, congrArg (Value.int .i64) (by omega), by omega, ?_, by omega, HLF2.out, HG4.out, HK4.out⟩, by simp [intOf]⟩
          rw [ByteArray.size_append]; omega
    · have z : ¬ (0 : Int) < (i : Int) := by omega
      obtain rfl : i = 0 := by omega
      have hlf : lineF zs P n = (t, p) := HLF.out
      have HE := hid (And.intro hlf (And.intro HG.out HK.out))
      clear hlf HG HK HLF
      go_wp2
      go_ret
      rw [HE.out.1]
      exact ⟨rfl, HE.out.2.1, HE.out.2.2⟩
end Go.Proofs.YthoemdibbldndaaGreatDoor

namespace Go.Proofs.YthoemdibbldndaaGreatDoor
open Go.RowKit

def FgX (w : World) (B g P n : Nat) (zs : List Int) (s9 s10 s12 : Value) (wr : World) : Prop := ∃ (i p : Nat) (f : List St.It), s10 = .slice none 0 0 ∧ s12 = .int .i64 i ∧ f.length + i ≤ n ∧ p + 9 * i ≤ P + 1 + 9 * n ∧ tot f + 18 * i ≤ 18 * n ∧ fragF zs P n = fragGo zs i f p ∧ wr.ownsRow w.heap.size 36 3 s9 f.length (cellsIt f) ∧ GoodF f ∧ GenX wr B g zs p ∧ w.grownBy wr (some g)
set_option maxRecDepth 20000 in
set_option maxHeartbeats 6400000 in
theorem frag_genx (B g P n : Nat) (zs : List Int) (w : World) (hG : GenX w B g zs P) (hP : P ≤ 100000) (hn : n ≤ 100) :
    Calls Tryz.prog 66 #[.pointer (some ⟨g, 0, none⟩), .int .i64 n, .bool false, .bool true] w fun e w' => ∃ v, e = .returned v ∧ w'.ownsRow w.heap.size 36 3 v (fragF zs P n).1.length (cellsIt (fragF zs P n).1) ∧ GoodF (fragF zs P n).1 ∧ (fragF zs P n).1.length ≤ n ∧ tot (fragF zs P n).1 ≤ 18 * n ∧ w.grownBy w' (some g) := by
  have HG := hid hG
  obtain ⟨hgB, hB⟩ := hG.lt
  have hr0 := nextF_lt zs P (m := n + 1) (by omega)
  clear hG
  go_enter Tryz.func66, Tryz.ntmps66
  go_wp2_with fail
  refine (next_genx B g P zs (n + 1) _ HG.out (by omega) (by omega) (by omega) _ (by omega)).mono ?_
  rintro e w2 ⟨rfl, hG2, hk⟩
  have HG2 := hid hG2
  have HK2 := hid hk
  have HFF := hid (show fragF zs P n = fragGo zs (nextF zs P (n + 1)) [] (P + 1) from rfl)
  generalize nextF zs P (n + 1) = r at *
  clear hG2 hk HG
  go_wp2_with fail
  go_loopw [9, 10, 12] (fun s9 s10 s12 wr => FgX w B g P n zs s9 s10 s12 wr) (fun _ _ s12 _ => (intOf s12).toNat)
  case atStart => exact ⟨r, P + 1, [], rfl, rfl, by simp; omega, by omega, by simp [tot]; omega, HFF.out, World.ownsRow_nil _ _ _ _, good_nil, HG2.out, HK2.out⟩
  case round =>
    clear HG2 HK2 hr0 HFF
    obtain ⟨i, p, f, rfl, rfl, hki, hpi, hft, hff, hown, hgood, hG, hk⟩ := hrel
    have HG := hid hG
    have HK := hid hk
    have HO := hid hown
    have HGD := hid hgood
    have HFF := hid hff
    clear hG hk hown hgood hff
    by_cases hi : 0 < i
    · have z : (0 : Int) < (i : Int) := by omega
      obtain ⟨j, rfl⟩ : ∃ j, i = j + 1 := ⟨i - 1, by omega⟩
      obtain ⟨wo, rfl⟩ : ∃ wo : World, wo = wr := ⟨_, rfl⟩
      have hfg0 := HFF.out
      rw [fragGo] at hfg0
      obtain ⟨hts0, htp0⟩ := lineF_size zs p 3
      go_wp2_with fail
      refine (line_genx B g p 3 zs _ HG.out (by omega) (by omega)).mono ?_
      rintro e w3 ⟨rfl, hG3, hk3⟩
      generalize lineF zs p 3 = tp at hG3 hfg0 hts0 htp0 ⊢
      obtain ⟨t, p3⟩ := tp
      simp only at hG3 hfg0 hts0 htp0 ⊢
      have HFG := hid hfg0
      have HG3 := hid hG3
      have HK3 := hid (gb_trans HK.out hk3 (fun _ e => .inl e))
      have HO3 := hid (own_gb HO.out hk3 (by omega))
      clear hG3 hk3 HG HK HO hfg0 HFF
      have hsz3 := HK3.out.size
      obtain ⟨A9, c9, rfl, _, _, hA9⟩ := own_slice' HO3.out
      have hlt3 : ∀ x, (Value.slice A9 f.length c9).ownBlock = some x → x < w3.heap.size := fun x hx => (HO3.out.lt x hx).2
      have hcat : ∀ (W : World) (b : Nat) (x : St.It), x.2.2 = 0 → ItemsAt W A9 f → ItemsAt W (some ⟨b, 0, none⟩) [x] → tot (f ++ [x]) ≤ 4611686018427387904 → Calls Tryz.prog 44 #[.slice A9 f.length c9, .slice (some ⟨b, 0, none⟩) 1 1] W fun e w' => ∃ v, e = .returned v ∧ w'.ownsRow W.heap.size 36 3 v (St.addI f x).length (cellsIt (St.addI f x)) ∧ Und W w' := by
        intro W b x hx h h' ht
        have := concat_any A9 f.length c9 f (some ⟨b, 0, none⟩) 1 1 [x] W rfl rfl (fun e => by have := hA9 e; omega) (fun e => by cases e) h h' (by omega) ht
        rw [St.normL_snoc, HGD.out.1] at this
        exact this
      have HCAT := hid hcat
      clear hcat
      have fin : ∀ (x : St.It) (v7 : Value) (w7 : World) (p7 : Nat), Good1 x → x.2.1.length ≤ 18 → fragF zs P n = fragGo zs j (St.addI f x) p7 → p7 ≤ p + 9 → w7.ownsRow w.heap.size 36 3 v7 (St.addI f x).length (cellsIt (St.addI f x)) → GenX w7 B g zs p7 → w.grownBy w7 (some g) → FgX w B g P n zs v7 (.slice none 0 0) (.int .i64 (j : Int)) w7 := by
        intro x v7 w7 p7 hg hx hfr hp7 ho hG hk
        have h1 := (St.addI_len f x).1
        have h2 := tot_add f x
        exact ⟨j, p7, St.addI f x, rfl, rfl, by omega, by omega, by omega, hfr, ho, good_add HGD.out hg, hG, hk⟩
      have FIN := hid fin
      clear fin
      have hgs : g < w3.heap.size := by omega
      have hji : ((j + 1 : Nat) : Int) - 1 = (j : Int) := by omega
      have hr8 := nextF_lt zs p3 (m := 8) (by omega)
      go_wp2_with fail
      refine (next_genx B g _ zs 8 _ (HG3.out.und ((Und.refl _).alloc _)) (by omega) (by omega) (by omega) 8 rfl).mono ?_
      rintro e w4 ⟨rfl, hG4, hk4⟩
      have HG4 := hid hG4
      have HK4 := hid (gb_trans (gb_und HK3.out ((Und.refl _).alloc (.cells #[.int .i64 1, .string t, .int .i64 0] 36))) hk4 (fun _ e => .inl e))
      have HO4 := hid (own_gb (HO3.out.alloc (.cells #[.int .i64 1, .string t, .int .i64 0] 36)) hk4 (by omega))
      have hb4 : w4.heap[w3.heap.size]? = some (Obj.cells #[.int .i64 1, .string t, .int .i64 0] 36 (0, 0)) := (hk4.block w3.heap.size (by simp) (by simp; omega)).trans (heap_alloc_new w3 _)
      have hsz4 : w3.heap.size < w4.heap.size := lt_of_heap hb4
      have d0 : w4.cell? ⟨w3.heap.size, 0, none⟩ = some (.int .i64 1) := Lib.cell_of_heap hb4 0
      have d1 : w4.cell? ⟨w3.heap.size, 1, none⟩ = some (.string t) := Lib.cell_of_heap hb4 1
      have d2 : w4.cell? ⟨w3.heap.size, 2, none⟩ = some (.int .i64 0) := Lib.cell_of_heap hb4 2
      haveI : LtW w3.heap.size w4 := LtW.of hsz4
      generalize hrr : nextF zs p3 8 = r at HFG hr8 ⊢
      clear hG4 hk4 HG3 HK3 HO3
      try rw [hrr]
      clear hrr
      rcases (show r = 0 ∨ r = 1 ∨ r = 2 ∨ r = 3 ∨ r = 4 ∨ r = 5 ∨ r = 6 ∨ r = 7 by omega) with h | h | h | h | h | h | h | h
      · subst h
        clear hr8 d0 d1 d2
        have hfg := HFG.out
        rw [if_pos (by omega)] at hfg
        have hq := nextF_lt zs (p3 + 1) (m := 3) (by omega)
        go_wp2_with fail
        refine (next_genx B g _ zs 3 _ (HG4.out.und ((Und.refl _).alloc (.cells #[.string ⟨#[110]⟩, .string ⟨#[110, 97, 109, 101]⟩, .string ⟨#[120, 49]⟩] 9))) (by omega) (by omega) (by omega) 3 rfl).mono ?_
        rintro e w5 ⟨rfl, hG5, hk5⟩
        generalize hqq : nextF zs (p3 + 1) 3 = q at hq hfg
        have HQQ := hid hqq
        clear hqq
        obtain ⟨u, hus0, hu, hus, hun⟩ : ∃ u : ByteArray, slotsL.getD q ⟨#[]⟩ = u ∧ (#[.string ⟨#[110]⟩, .string ⟨#[110, 97, 109, 101]⟩, .string ⟨#[120, 49]⟩] : Array Value)[q]? = some (.string u) ∧ u.size ≤ 4 ∧ St.isNameL u.data.toList = true := by
          rcases (show q = 0 ∨ q = 1 ∨ q = 2 by omega) with h | h | h <;> subst h <;> exact ⟨_, rfl, rfl, by decide, by decide⟩
        rw [hus0] at hfg
        have HFG2 := hid hfg
        have hcell := lit_cell w4 w5 _ _ B g hk5 hgB (by omega) q _ hu
        have HG5 := hid hG5
        have HK5 := hid (gb_trans (gb_und HK4.out ((Und.refl _).alloc (.cells #[.string ⟨#[110]⟩, .string ⟨#[110, 97, 109, 101]⟩, .string ⟨#[120, 49]⟩] 9))) hk5 (fun _ e => .inl e))
        have HO5 := hid (own_gb (HO4.out.alloc (.cells #[.string ⟨#[110]⟩, .string ⟨#[110, 97, 109, 101]⟩, .string ⟨#[120, 49]⟩] 9)) hk5 (by omega))
        have hb5 : w5.heap[w3.heap.size]? = some (Obj.cells #[.int .i64 1, .string t, .int .i64 0] 36 (0, 0)) := (hk5.block w3.heap.size (by simp; omega) (by simp; omega)).trans ((((Und.refl w4).alloc _).below.block w3.heap.size hsz4).trans hb4)
        haveI : LtW w4.heap.size w5 := LtW.of (World.block_lt_of_cell? _ _ hcell)
        have f0 : w5.frozen? ⟨w3.heap.size, 0, none⟩ = false := Lib.frozen_of_heap hb5 0
        have f1 : w5.frozen? ⟨w3.heap.size, 1, none⟩ = false := Lib.frozen_of_heap hb5 1
        have f2 : w5.frozen? ⟨w3.heap.size, 2, none⟩ = false := Lib.frozen_of_heap hb5 2
        have g0 : w5.cell? ⟨w3.heap.size, 0, none⟩ = some (.int .i64 1) := Lib.cell_of_heap hb5 0
        have g1 : w5.cell? ⟨w3.heap.size, 1, none⟩ = some (.string t) := Lib.cell_of_heap hb5 1
        have g2 : w5.cell? ⟨w3.heap.size, 2, none⟩ = some (.int .i64 0) := Lib.cell_of_heap hb5 2
        haveI : LtW w3.heap.size w5 := LtW.of (lt_of_heap hb5)
        have hob : (Value.slice A9 f.length c9).ownBlock ≠ some w3.heap.size := fun e => by have := hlt3 _ e; omega
        have hkey : ∀ W, W = ((w5.setCell ⟨w3.heap.size, 0, none⟩ (.int .i64 5)).setCell ⟨w3.heap.size, 1, none⟩ (.string u)).setCell ⟨w3.heap.size, 2, none⟩ (.int .i64 0) → W.ownsRow w.heap.size 36 3 (.slice A9 f.length c9) f.length (cellsIt f) ∧ GenX W B g zs (p3 + 1 + 1) ∧ w.grownBy W (some g) := by
          intro W hW
          subst hW
          have hBb : ∀ x, some w3.heap.size = some x → B ≤ x := fun x e => by cases e; omega
          refine ⟨own_set (own_set (own_set HO5.out hob) hob) hob, ?_, gb_setCell (gb_setCell (gb_setCell HK5.out _ _ (.inr (by show w.heap.size ≤ w3.heap.size; omega))) _ _ (.inr (by show w.heap.size ≤ w3.heap.size; omega))) _ _ (.inr (by show w.heap.size ≤ w3.heap.size; omega))⟩
          exact ((HG5.out.gb (gb_set w5 ⟨w3.heap.size, 0, none⟩ _) hBb).gb (gb_set _ ⟨w3.heap.size, 1, none⟩ _) hBb).gb (gb_set _ ⟨w3.heap.size, 2, none⟩ _) hBb
        have HKEY := hid (hkey _ rfl)
        have hne5 := HKEY.out.2.1.lt.2
        clear hG5 hk5 HG4 HK4 HO4 hkey hu hus0 hfg HFG
        try rw [HQQ.out]
        go_wp2_with fail
        refine (HCAT.out _ _ (5, u.data.toList, 0) rfl ?_ ?_ ?_).mono ?_
        · exact (items_own HKEY.out.1 rfl).und ((Und.refl _).alloc _)
        · rw [← ba_eta u]; exact items_box _ _ _ _ (by simp) (by rw [World.cell?_alloc_at _ _ _ _ (by simp)]; rfl) (by rw [World.cell?_alloc_at _ _ _ _ (by simp)]; rfl) (by rw [World.cell?_alloc_at _ _ _ _ (by simp)]; rfl)
        · rw [tot_snoc]; simp; omega
        rintro e w7 ⟨v7, rfl, ho7, hu7⟩
        have hrel := FIN.out (5, u.data.toList, 0) v7 w7 (p3 + 2) ⟨rfl, .inr ⟨rfl, hun⟩⟩ (by simp; omega) HFG2.out (by omega) (own_low ho7 (by have := HKEY.out.2.2.size; simp at this ⊢; omega)) ((HKEY.out.2.1.und ((Und.refl _).alloc _)).und hu7) (gb_und HKEY.out.2.2 (((Und.refl _).alloc _).trans hu7))
        have HREL := hid hrel
        clear hrel ho7 hu7 hcell
        go_wp2
        exact ⟨HREL.out, by simp [intOf]⟩
      · subst h
        clear hr8 d0 d1 d2
        have hfg := HFG.out
        rw [if_pos (by omega)] at hfg
        have hq := nextF_lt zs (p3 + 1) (m := 3) (by omega)
        go_wp2_with fail
        refine (next_genx B g _ zs 3 _ (HG4.out.und ((Und.refl _).alloc (.cells #[.string ⟨#[110]⟩, .string ⟨#[110, 97, 109, 101]⟩, .string ⟨#[120, 49]⟩] 9))) (by omega) (by omega) (by omega) 3 rfl).mono ?_
        rintro e w5 ⟨rfl, hG5, hk5⟩
        generalize hqq : nextF zs (p3 + 1) 3 = q at hq hfg
        have HQQ := hid hqq
        clear hqq
        obtain ⟨u, hus0, hu, hus, hun⟩ : ∃ u : ByteArray, slotsL.getD q ⟨#[]⟩ = u ∧ (#[.string ⟨#[110]⟩, .string ⟨#[110, 97, 109, 101]⟩, .string ⟨#[120, 49]⟩] : Array Value)[q]? = some (.string u) ∧ u.size ≤ 4 ∧ St.isNameL u.data.toList = true := by
          rcases (show q = 0 ∨ q = 1 ∨ q = 2 by omega) with h | h | h <;> subst h <;> exact ⟨_, rfl, rfl, by decide, by decide⟩
        rw [hus0] at hfg
        have HFG2 := hid hfg
        have hcell := lit_cell w4 w5 _ _ B g hk5 hgB (by omega) q _ hu
        have HG5 := hid hG5
        have HK5 := hid (gb_trans (gb_und HK4.out ((Und.refl _).alloc (.cells #[.string ⟨#[110]⟩, .string ⟨#[110, 97, 109, 101]⟩, .string ⟨#[120, 49]⟩] 9))) hk5 (fun _ e => .inl e))
        have HO5 := hid (own_gb (HO4.out.alloc (.cells #[.string ⟨#[110]⟩, .string ⟨#[110, 97, 109, 101]⟩, .string ⟨#[120, 49]⟩] 9)) hk5 (by omega))
        have hb5 : w5.heap[w3.heap.size]? = some (Obj.cells #[.int .i64 1, .string t, .int .i64 0] 36 (0, 0)) := (hk5.block w3.heap.size (by simp; omega) (by simp; omega)).trans ((((Und.refl w4).alloc _).below.block w3.heap.size hsz4).trans hb4)
        haveI : LtW w4.heap.size w5 := LtW.of (World.block_lt_of_cell? _ _ hcell)
        have f0 : w5.frozen? ⟨w3.heap.size, 0, none⟩ = false := Lib.frozen_of_heap hb5 0
        have f1 : w5.frozen? ⟨w3.heap.size, 1, none⟩ = false := Lib.frozen_of_heap hb5 1
        have f2 : w5.frozen? ⟨w3.heap.size, 2, none⟩ = false := Lib.frozen_of_heap hb5 2
        have g0 : w5.cell? ⟨w3.heap.size, 0, none⟩ = some (.int .i64 1) := Lib.cell_of_heap hb5 0
        have g1 : w5.cell? ⟨w3.heap.size, 1, none⟩ = some (.string t) := Lib.cell_of_heap hb5 1
        have g2 : w5.cell? ⟨w3.heap.size, 2, none⟩ = some (.int .i64 0) := Lib.cell_of_heap hb5 2
        haveI : LtW w3.heap.size w5 := LtW.of (lt_of_heap hb5)
        have hob : (Value.slice A9 f.length c9).ownBlock ≠ some w3.heap.size := fun e => by have := hlt3 _ e; omega
        have hkey : ∀ W, W = ((w5.setCell ⟨w3.heap.size, 0, none⟩ (.int .i64 5)).setCell ⟨w3.heap.size, 1, none⟩ (.string u)).setCell ⟨w3.heap.size, 2, none⟩ (.int .i64 0) → W.ownsRow w.heap.size 36 3 (.slice A9 f.length c9) f.length (cellsIt f) ∧ GenX W B g zs (p3 + 1 + 1) ∧ w.grownBy W (some g) := by
          intro W hW
          subst hW
          have hBb : ∀ x, some w3.heap.size = some x → B ≤ x := fun x e => by cases e; omega
          refine ⟨own_set (own_set (own_set HO5.out hob) hob) hob, ?_, gb_setCell (gb_setCell (gb_setCell HK5.out _ _ (.inr (by show w.heap.size ≤ w3.heap.size; omega))) _ _ (.inr (by show w.heap.size ≤ w3.heap.size; omega))) _ _ (.inr (by show w.heap.size ≤ w3.heap.size; omega))⟩
          exact ((HG5.out.gb (gb_set w5 ⟨w3.heap.size, 0, none⟩ _) hBb).gb (gb_set _ ⟨w3.heap.size, 1, none⟩ _) hBb).gb (gb_set _ ⟨w3.heap.size, 2, none⟩ _) hBb
        have HKEY := hid (hkey _ rfl)
        have hne5 := HKEY.out.2.1.lt.2
        clear hG5 hk5 HG4 HK4 HO4 hkey hu hus0 hfg HFG
        try rw [HQQ.out]
        go_wp2_with fail
        refine (HCAT.out _ _ (5, u.data.toList, 0) rfl ?_ ?_ ?_).mono ?_
        · exact (items_own HKEY.out.1 rfl).und ((Und.refl _).alloc _)
        · rw [← ba_eta u]; exact items_box _ _ _ _ (by simp) (by rw [World.cell?_alloc_at _ _ _ _ (by simp)]; rfl) (by rw [World.cell?_alloc_at _ _ _ _ (by simp)]; rfl) (by rw [World.cell?_alloc_at _ _ _ _ (by simp)]; rfl)
        · rw [tot_snoc]; simp; omega
        rintro e w7 ⟨v7, rfl, ho7, hu7⟩
        have hrel := FIN.out (5, u.data.toList, 0) v7 w7 (p3 + 2) ⟨rfl, .inr ⟨rfl, hun⟩⟩ (by simp; omega) HFG2.out (by omega) (own_low ho7 (by have := HKEY.out.2.2.size; simp at this ⊢; omega)) ((HKEY.out.2.1.und ((Und.refl _).alloc _)).und hu7) (gb_und HKEY.out.2.2 (((Und.refl _).alloc _).trans hu7))
        have HREL := hid hrel
        clear hrel ho7 hu7 hcell
        go_wp2
        exact ⟨HREL.out, by simp [intOf]⟩
      · subst h
        clear hr8 hb4
        have hfg := HFG.out
        rw [if_neg (by omega)] at hfg
        have HFG2 := hid hfg
        clear hfg HFG
        go_wp2_with fail
        refine (HCAT.out _ _ (1, t.data.toList, 0) rfl ?_ ?_ ?_).mono ?_
        · exact (items_own HO4.out rfl).und ((Und.refl _).alloc _)
        · rw [← ba_eta t]; exact items_box _ _ _ _ (by simp) (by simp) (by simp) (by simp)
        · rw [tot_snoc]; simp; omega
        rintro e w7 ⟨v7, rfl, ho7, hu7⟩
        have hrel := FIN.out (1, t.data.toList, 0) v7 w7 (p3 + 1) ⟨rfl, .inl rfl⟩ (by simp; omega) HFG2.out (by omega) (own_low ho7 (by have := HK4.out.size; simp at this ⊢; omega)) ((HG4.out.und ((Und.refl _).alloc _)).und hu7) (gb_und HK4.out (((Und.refl _).alloc _).trans hu7))
        have HREL := hid hrel
        clear hrel ho7 hu7 d0 d1 d2
        go_wp2
        exact ⟨HREL.out, by simp [intOf]⟩
      · subst h
        clear hr8 hb4
        have hfg := HFG.out
        rw [if_neg (by omega)] at hfg
        have HFG2 := hid hfg
        clear hfg HFG
        go_wp2_with fail
        refine (HCAT.out _ _ (1, t.data.toList, 0) rfl ?_ ?_ ?_).mono ?_
        · exact (items_own HO4.out rfl).und ((Und.refl _).alloc _)
        · rw [← ba_eta t]; exact items_box _ _ _ _ (by simp) (by simp) (by simp) (by simp)
        · rw [tot_snoc]; simp; omega
        rintro e w7 ⟨v7, rfl, ho7, hu7⟩
        have hrel := FIN.out (1, t.data.toList, 0) v7 w7 (p3 + 1) ⟨rfl, .inl rfl⟩ (by simp; omega) HFG2.out (by omega) (own_low ho7 (by have := HK4.out.size; simp at this ⊢; omega)) ((HG4.out.und ((Und.refl _).alloc _)).und hu7) (gb_und HK4.out (((Und.refl _).alloc _).trans hu7))
        have HREL := hid hrel
        clear hrel ho7 hu7 d0 d1 d2
        go_wp2
        exact ⟨HREL.out, by simp [intOf]⟩
      · subst h
        clear hr8 hb4
        have hfg := HFG.out
        rw [if_neg (by omega)] at hfg
        have HFG2 := hid hfg
        clear hfg HFG
        go_wp2_with fail
        refine (HCAT.out _ _ (1, t.data.toList, 0) rfl ?_ ?_ ?_).mono ?_
        · exact (items_own HO4.out rfl).und ((Und.refl _).alloc _)
        · rw [← ba_eta t]; exact items_box _ _ _ _ (by simp) (by simp) (by simp) (by simp)
        · rw [tot_snoc]; simp; omega
        rintro e w7 ⟨v7, rfl, ho7, hu7⟩
        have hrel := FIN.out (1, t.data.toList, 0) v7 w7 (p3 + 1) ⟨rfl, .inl rfl⟩ (by simp; omega) HFG2.out (by omega) (own_low ho7 (by have := HK4.out.size; simp at this ⊢; omega)) ((HG4.out.und ((Und.refl _).alloc _)).und hu7) (gb_und HK4.out (((Und.refl _).alloc _).trans hu7))
        have HREL := hid hrel
        clear hrel ho7 hu7 d0 d1 d2
        go_wp2
        exact ⟨HREL.out, by simp [intOf]⟩
      · subst h
        clear hr8 hb4
        have hfg := HFG.out
        rw [if_neg (by omega)] at hfg
        have HFG2 := hid hfg
        clear hfg HFG
        go_wp2_with fail
        refine (HCAT.out _ _ (1, t.data.toList, 0) rfl ?_ ?_ ?_).mono ?_
        · exact (items_own HO4.out rfl).und ((Und.refl _).alloc _)
        · rw [← ba_eta t]; exact items_box _ _ _ _ (by simp) (by simp) (by simp) (by simp)
        · rw [tot_snoc]; simp; omega
        rintro e w7 ⟨v7, rfl, ho7, hu7⟩
        have hrel := FIN.out (1, t.data.toList, 0) v7 w7 (p3 + 1) ⟨rfl, .inl rfl⟩ (by simp; omega) HFG2.out (by omega) (own_low ho7 (by have := HK4.out.size; simp at this ⊢; omega)) ((HG4.out.und ((Und.refl _).alloc _)).und hu7) (gb_und HK4.out (((Und.refl _).alloc _).trans hu7))
        have HREL := hid hrel
        clear hrel ho7 hu7 d0 d1 d2
        go_wp2
        exact ⟨HREL.out, by simp [intOf]⟩
      · subst h
        clear hr8 hb4
        have hfg := HFG.out
        rw [if_neg (by omega)] at hfg
        have HFG2 := hid hfg
        clear hfg HFG
        go_wp2_with fail
        refine (HCAT.out _ _ (1, t.data.toList, 0) rfl ?_ ?_ ?_).mono ?_
        · exact (items_own HO4.out rfl).und ((Und.refl _).alloc _)
        · rw [← ba_eta t]; exact items_box _ _ _ _ (by simp) (by simp) (by simp) (by simp)
        · rw [tot_snoc]; simp; omega
        rintro e w7 ⟨v7, rfl, ho7, hu7⟩
        have hrel := FIN.out (1, t.data.toList, 0) v7 w7 (p3 + 1) ⟨rfl, .inl rfl⟩ (by simp; omega) HFG2.out (by omega) (own_low ho7 (by have := HK4.out.size; simp at this ⊢; omega)) ((HG4.out.und ((Und.refl _).alloc _)).und hu7) (gb_und HK4.out (((Und.refl _).alloc _).trans hu7))
        have HREL := hid hrel
        clear hrel ho7 hu7 d0 d1 d2
        go_wp2
        exact ⟨HREL.out, by simp [intOf]⟩
      · subst h
        clear hr8 hb4
        have hfg := HFG.out
        rw [if_neg (by omega)] at hfg
        have HFG2 := hid hfg
        clear hfg HFG
        go_wp2_with fail
        refine (HCAT.out _ _ (1, t.data.toList, 0) rfl ?_ ?_ ?_).mono ?_
        · exact (items_own HO4.out rfl).und ((Und.refl _).alloc _)
        · rw [← ba_eta t]; exact items_box _ _ _ _ (by simp) (by simp) (by simp) (by simp)
        · rw [tot_snoc]; simp; omega
        rintro e w7 ⟨v7, rfl, ho7, hu7⟩
        have hrel := FIN.out (1, t.data.toList, 0) v7 w7 (p3 + 1) ⟨rfl, .inl rfl⟩ (by simp; omega) HFG2.out (by omega) (own_low ho7 (by have := HK4.out.size; simp at this ⊢; omega)) ((HG4.out.und ((Und.refl _).alloc _)).und hu7) (gb_und HK4.out (((Und.refl _).alloc _).trans hu7))
        have HREL := hid hrel
        clear hrel ho7 hu7 d0 d1 d2
        go_wp2
        exact ⟨HREL.out, by simp [intOf]⟩
    · have z : ¬ (0 : Int) < (i : Int) := by omega
      have z0 : i = 0 := by omega
      subst z0
      have hff : fragF zs P n = (f, p) := HFF.out
      have HE := hid (show ∃ v', v' = u9 ∧ wr.ownsRow w.heap.size 36 3 u9 (fragF zs P n).1.length (cellsIt (fragF zs P n).1) ∧ GoodF (fragF zs P n).1 ∧ (fragF zs P n).1.length ≤ n ∧ tot (fragF zs P n).1 ≤ 18 * n ∧ w.grownBy wr (some g) by
        rw [hff]; exact ⟨_, rfl, HO.out, HGD.out, by simp only; omega, by simp only; omega, HK.out⟩)
      clear hff
      go_wp2_with fail
      refine wp_loop_rounds 1 ?_
      rw [rounds_succ]
      go_wp2
      go_ret
      obtain ⟨v', rfl, h⟩ := HE.out
      exact ⟨_, rfl, h⟩
end Go.Proofs.YthoemdibbldndaaGreatDoor

namespace Go.Proofs.YthoemdibbldndaaGreatDoor

namespace St
theorem nameHd' {t : List UInt8} (h : isNameL t = true) : ∃ c r, t = c :: r ∧ c.toNat ≠ 123 := by
  cases t with
  | nil => cases h
  | cons c r =>
    rw [isNameL] at h
    simp only [Bool.and_eq_true, decide_eq_true_eq, lowC] at h
    exact ⟨c, r, rfl, by omega⟩
theorem name_all' {t : List UInt8} (h : isNameL t = true) : ∀ c ∈ t, c.toNat ≠ 125 := by
  cases t with
  | nil => cases h
  | cons c r =>
    rw [isNameL] at h
    simp only [Bool.and_eq_true, decide_eq_true_eq, lowC] at h
    obtain ⟨_, h1, h2⟩ := h
    intro d hd
    rcases List.mem_cons.1 hd with rfl | hd
    · omega
    · have := List.all_eq_true.1 h2 d hd
      simp only [nameC, decide_eq_true_eq] at this
      omega
theorem slot_enc' {t : List UInt8} (h : isNameL t = true) (rest : List UInt8) : slotL (123 :: (t ++ 125 :: rest)) = some (t, t.length + 2) := by
  have htw : (t ++ 125 :: rest).takeWhile (fun c => decide (c.toNat ≠ 125)) = t := by
    rw [List.takeWhile_append_of_pos (fun c hc => by simpa using name_all' h c hc), List.takeWhile_cons_of_neg (by decide), List.append_nil]
  unfold slotL
  simp only [List.drop_succ_cons, List.drop_zero, htw]
  rw [h, decide_eq_true (by simp)]
  rfl
theorem u8_of {c : UInt8} {n : Nat} (h : c.toNat = n) : c = UInt8.ofNat n := by
  apply UInt8.toNat_inj.1
  rw [h, UInt8.toNat_ofNat_of_lt']
  rw [← h]; exact c.toNat_lt
/-- What a byte of text is written as is read as that byte, and does not begin with a tab; with a space only where it is one. -/
theorem res_byte (c : UInt8) (rest : List UInt8) : resL (encB 2 c ++ rest) = some (1, [c], (encB 2 c).length) := by
  by_cases h10 : c.toNat = 10
  · obtain rfl := u8_of h10; rfl
  by_cases h9 : c.toNat = 9
  · obtain rfl := u8_of h9; rfl
  by_cases h13 : c.toNat = 13
  · obtain rfl := u8_of h13; rfl
  by_cases h92 : c.toNat = 92
  · obtain rfl := u8_of h92; rfl
  by_cases h123 : c.toNat = 123
  · obtain rfl := u8_of h123; rfl
  have e : encB 2 c = [c] := by unfold encB; simp [h10, h9, h13, h92, h123]
  rw [e]
  exact res_else h10 h92 h123
theorem res_slot {t : List UInt8} (h : isNameL t = true) (rest : List UInt8) : resL (123 :: (t ++ [125]) ++ rest) = some (5, t, (123 :: (t ++ [125])).length) := by
  have e : 123 :: (t ++ [125]) ++ rest = 123 :: (t ++ 125 :: rest) := by simp
  rw [e, res_123 (by decide), slot_enc' h]
  simp
theorem res_piece {p : It} (h : Pos1 p) : Piece resL (encI 2 p) p := by
  rcases h with ⟨c, rfl⟩ | ⟨t, rfl, ht⟩
  · have e : encI 2 (1, [c], 0) = encB 2 c := by simp [encI]
    rw [e]
    exact piece_of res_elen (by intro h0; have := (encB_len 2 c).1; rw [h0] at this; simp at this) (by decide) (fun rest => res_byte c rest)
  · have e : encI 2 (5, t, 0) = 123 :: (t ++ [125]) := by simp [encI]
    rw [e]
    exact piece_of res_elen (by simp) (by decide) (fun rest => res_slot ht rest)
theorem res_s : Piece resL [92, 115] (1, [32], 0) := piece_of res_elen (by simp) (by decide) (fun _ => rfl)
/-- The first byte of a shielded piece is no blank. -/
theorem shield_head {p : It} (h : Pos1 p) : ∃ c r, shieldL (encI 2 p) = c :: r ∧ blkC c = false := by
  rcases h with ⟨c, rfl⟩ | ⟨t, rfl, ht⟩
  · have e : encI 2 (1, [c], 0) = encB 2 c := by simp [encI]
    rw [e]
    by_cases h10 : c.toNat = 10
    · obtain rfl := u8_of h10; exact ⟨92, [110], rfl, rfl⟩
    by_cases h9 : c.toNat = 9
    · obtain rfl := u8_of h9; exact ⟨92, [116], rfl, rfl⟩
    by_cases h13 : c.toNat = 13
    · obtain rfl := u8_of h13; exact ⟨92, [114], rfl, rfl⟩
    by_cases h92 : c.toNat = 92
    · obtain rfl := u8_of h92; exact ⟨92, [92], rfl, rfl⟩
    by_cases h123 : c.toNat = 123
    · obtain rfl := u8_of h123; exact ⟨92, [123], rfl, rfl⟩
    have e : encB 2 c = [c] := by unfold encB; simp [h10, h9, h13, h92, h123]
    rw [e, shieldL]
    by_cases h32 : c.toNat = 32
    · rw [if_pos h32]; exact ⟨92, [115], rfl, rfl⟩
    · rw [if_neg h32]; exact ⟨c, [], rfl, by simp [blkC, h32, h9]⟩
  · have e : encI 2 (5, t, 0) = 123 :: (t ++ [125]) := by simp [encI]
    rw [e]
    exact ⟨123, t ++ [125], rfl, rfl⟩
theorem shield_piece {p : It} (h : Pos1 p) : Piece resL (shieldL (encI 2 p)) p := by
  have h0 := res_piece h
  rcases h with ⟨c, rfl⟩ | ⟨t, rfl, ht⟩
  · have e : encI 2 (1, [c], 0) = encB 2 c := by simp [encI]
    rw [e] at h0 ⊢
    by_cases h32 : c.toNat = 32
    · obtain rfl := u8_of h32
      exact res_s
    · have : shieldL (encB 2 c) = encB 2 c := by
        have hn : ∀ d r, encB 2 c = d :: r → d.toNat ≠ 32 := by
          intro d r hd
          unfold encB at hd
          simp only [Int.reduceEq, if_false, if_true] at hd
          repeat' split at hd
          all_goals
            simp only [List.cons.injEq] at hd
            first | (rw [← hd.1]; decide) | (rw [← hd.1]; exact h32)
        cases hb : encB 2 c with
        | nil => rfl
        | cons d r => rw [shieldL, if_neg (hn d r hb)]
      rw [this]; exact h0
  · have e : encI 2 (5, t, 0) = 123 :: (t ++ [125]) := by simp [encI]
    rw [e] at h0 ⊢
    rw [shieldL, if_neg (by decide)]
    exact h0
theorem blank_blk (r : Nat) : ∀ c ∈ blankL r, blkC c = true := by
  unfold blankL
  intro c hc
  split at hc
  · simp at hc
  · split at hc
    · simp at hc; subst hc; rfl
    · simp at hc; rcases hc with rfl | rfl <;> rfl
theorem cont_piece {p : It} (h : Pos1 p) (r : Nat) : Piece resL ([92, 10] ++ blankL r ++ shieldL (encI 2 p)) p := by
  obtain ⟨c, q, hc, hb⟩ := shield_head h
  intro rest a d f cuts hf
  have e : [92, 10] ++ blankL r ++ shieldL (encI 2 p) ++ rest = 92 :: 10 :: (blankL r ++ (shieldL (encI 2 p) ++ rest)) := by simp
  have hn : blkN (blankL r ++ (shieldL (encI 2 p) ++ rest)) = (blankL r).length := by
    unfold blkN
    rw [List.takeWhile_append_of_pos (blank_blk r), hc, List.cons_append, List.takeWhile_cons_of_neg (by simp [hb])]
    simp
  have hs : resL (92 :: 10 :: (blankL r ++ (shieldL (encI 2 p) ++ rest))) = some (0, [], 2 + (blankL r).length) := by rw [res_cont (by decide) (by decide), hn]
  rw [e, decF_skip res_elen a d f cuts (by simp) hs]
  have e2 : (92 :: 10 :: (blankL r ++ (shieldL (encI 2 p) ++ rest))).drop (2 + (blankL r).length) = shieldL (encI 2 p) ++ rest := by
    have : 2 + (blankL r).length = (92 :: 10 :: blankL r).length := by simp; omega
    rw [this, show (92 :: 10 :: (blankL r ++ (shieldL (encI 2 p) ++ rest))) = (92 :: 10 :: blankL r) ++ (shieldL (encI 2 p) ++ rest) by simp, List.drop_left]
  rw [e2, shield_piece h rest _ d f cuts hf]
  have e3 : a + (2 + (blankL r).length) + (shieldL (encI 2 p)).length = a + ([92, 10] ++ blankL r ++ shieldL (encI 2 p)).length := by simp; omega
  rw [e3]
theorem res_form {p : It} {b : List UInt8} (h : Pos1 p) (hf : formB 2 p b) : Piece resL b p := by
  rcases hf with rfl | ⟨h1, _⟩ | ⟨_, ⟨h1, h2, rfl⟩ | ⟨r, _, rfl⟩⟩
  · exact res_piece h
  · exact absurd h1 (by decide)
  · obtain ⟨k, t, i⟩ := p
    simp only at h1 h2
    subst h1 h2
    rcases h with ⟨c, hc⟩ | ⟨t, ht, _⟩
    · simp only [Prod.mk.injEq] at hc
      obtain ⟨_, _, rfl⟩ := hc
      exact res_s
    · simp only [Prod.mk.injEq] at ht
      exact absurd ht.1 (by decide)
  · exact cont_piece h r
end St
end Go.Proofs.YthoemdibbldndaaGreatDoor

namespace Go.Proofs.YthoemdibbldndaaGreatDoor
open Go.RowKit

/-- A fragment in memory. -/
def FragAt (w : World) (A : Option Addr) (c : Nat) (f : List St.It) (n : Nat) : Prop := ItemsAt w A f ∧ GoodF f ∧ f.length ≤ n ∧ tot f ≤ 18 * n ∧ f.length ≤ c ∧ c ≤ 9223372036854775807 ∧ ∀ b off, A = some ⟨b, off, none⟩ → b < w.heap.size
theorem FragAt.und {w w' : World} {A : Option Addr} {c : Nat} {f : List St.It} {n : Nat} (h : FragAt w A c f n) (u : Und w w') : FragAt w' A c f n := by
  obtain ⟨h1, h2, h3, h4, h5, h6, h7⟩ := h
  exact ⟨h1.und u, h2, h3, h4, h5, h6, fun b off e => Nat.lt_of_lt_of_le (h7 b off e) u.size⟩
theorem own_block_lt {w : World} {B n c : Nat} {A : Option Addr} {e : TypeId} {size : Nat} {xs : List Value} (h : w.ownsRow B e size (.slice A n c) n xs) : ∀ b off, A = some ⟨b, off, none⟩ → b < w.heap.size := by
  intro b off e'
  subst e'
  exact (h.lt b rfl).2
set_option maxHeartbeats 3200000 in
theorem made_any (A : Option Addr) (n c : Nat) (zs : List Int) (w : World) (hz : zs.length = n) (hn : n ≤ 9223372036854775807) (hI : IntsAt w A zs) :
    Calls Tryz.prog 41 #[.slice A n c] w fun e w' => ∃ A2 c2 f, e = .returned (.slice A2 f.length c2) ∧ FragAt w' A2 c2 f 8 ∧ Und w w' := by
  have HG := hid (GenP.fresh (c := c) (T := 61) hn hz hI)
  clear hI
  go_enter Tryz.func41, Tryz.ntmps41
  go_wp2_with fail
  refine (frag_gen (w.heap.size + 1) w.heap.size 0 8 _ HG.out (by omega) (by omega)).mono ?_
  rintro e w2 ⟨v, f, rfl, ho, hgd, hfl, hft, hG2, hk⟩
  obtain ⟨A2, c2, rfl, h1, h2, _⟩ := own_slice' ho
  have hu : Und w w2 := ((Und.refl w).alloc _).of_gb hk (fun g e => by cases e; exact Nat.le_refl _)
  have hF : FragAt w2 A2 c2 f 8 := ⟨items_own ho rfl, hgd, hfl, hft, h1, by unfold maxLen at h2; omega, own_block_lt ho⟩
  have HE := hid (And.intro hF hu)
  clear ho hgd hG2 hk hu hF
  go_wp2
  go_ret
  exact ⟨A2, c2, f, rfl, HE.out.1, HE.out.2⟩
end Go.Proofs.YthoemdibbldndaaGreatDoor

namespace Go.Proofs.YthoemdibbldndaaGreatDoor
open Go.RowKit

/-- A raw content of pieces is read to its items. -/
theorem reads_pieces {E : List UInt8 → St.El} {fmt : Int} {f : List St.It} {raw : ByteArray} (hg : GoodF f) (hl : f.length ≤ 100) (ht : tot f ≤ 900) (hr : RawsOf fmt f raw) (hp : ∀ p b, St.Pos1 p → St.formB fmt p b → St.Piece E b p) :
    ∃ cuts, St.decF E raw.data.toList 0 0 [] [] = (f, cuts, 0, 0) ∧ cuts.length = St.lenL f + 1 := by
  obtain ⟨ps, h1, h2, h3⟩ := hr
  have hpos : ∀ p ∈ ps, St.Piece E p.1 p.2 := by
    intro p hpm
    have : p.2 ∈ St.posI f := by rw [← h2]; unfold St.itsP; exact List.mem_map.2 ⟨p, hpm, rfl⟩
    exact hp p.2 p.1 (good_pos hg _ this) (h3 p hpm)
  have hf : (St.itsP ps).foldl St.addI [] = f := by rw [h2]; exact St.pos_norm hg.1 (fun x hx => (hg.2 x hx).1)
  have hlen : ps.length = St.lenL f := by rw [← its_len, h2, St.pos_len]
  have hll := lenL_tot f
  have := St.decF_pieces ps [] 0 0 [] [] hpos (by rw [hf]; omega) (by simp; omega)
  rw [List.append_nil, ← h1, St.decF_nil, hf] at this
  exact ⟨_, this, by simp [St.offs_len, hlen]⟩
theorem resD_F' (x : ByteArray) : resD x = St.decF St.resL x.data.toList 0 0 [] [] := by unfold resD St.decF; rw [St.len_list]
theorem res_reads {f : List St.It} {raw : ByteArray} (hg : GoodF f) (hl : f.length ≤ 100) (ht : tot f ≤ 900) (hr : RawsOf 2 f raw) : ∃ cuts, resD raw = (f, cuts, 0, 0) ∧ cuts.length = St.lenL f + 1 := by
  rw [resD_F']
  exact reads_pieces hg hl ht hr fun p b hp hf => St.res_form hp hf
end Go.Proofs.YthoemdibbldndaaGreatDoor

namespace Go.Proofs.YthoemdibbldndaaGreatDoor.St

theorem cont_piece2 {p : It} (h : Pos1 p) {B : List UInt8} (hB : ∀ c ∈ B, blkC c = true) : Piece resL ([92, 10] ++ B ++ shieldL (encI 2 p)) p := by
  obtain ⟨c, q, hc, hb⟩ := shield_head h
  intro rest a d f cuts hf
  have e : [92, 10] ++ B ++ shieldL (encI 2 p) ++ rest = 92 :: 10 :: (B ++ (shieldL (encI 2 p) ++ rest)) := by simp
  have hn : blkN (B ++ (shieldL (encI 2 p) ++ rest)) = B.length := by
    unfold blkN
    rw [List.takeWhile_append_of_pos hB, hc, List.cons_append, List.takeWhile_cons_of_neg (by simp [hb])]
    simp
  have hs : resL (92 :: 10 :: (B ++ (shieldL (encI 2 p) ++ rest))) = some (0, [], 2 + B.length) := by rw [res_cont (by decide) (by decide), hn]
  rw [e, decF_skip res_elen a d f cuts (by simp) hs]
  have e2 : (92 :: 10 :: (B ++ (shieldL (encI 2 p) ++ rest))).drop (2 + B.length) = shieldL (encI 2 p) ++ rest := by
    have : 2 + B.length = (92 :: 10 :: B).length := by simp; omega
    rw [this, show (92 :: 10 :: (B ++ (shieldL (encI 2 p) ++ rest))) = (92 :: 10 :: B) ++ (shieldL (encI 2 p) ++ rest) by simp, List.drop_left]
  rw [e2, shield_piece h rest _ d f cuts hf]
  have e3 : a + (2 + B.length) + (shieldL (encI 2 p)).length = a + ([92, 10] ++ B ++ shieldL (encI 2 p)).length := by simp; omega
  rw [e3]
def encP (ps : List It) : List (List UInt8 × It) := ps.map fun p => (encI 2 p, p)
theorem encP_flat (ps : List It) : flatP (encP ps) = ps.flatMap (encI 2) := by unfold flatP encP; rw [List.flatMap_map]
theorem encP_its (ps : List It) : itsP (encP ps) = ps := by
  unfold itsP encP
  rw [List.map_map]
  show ps.map (fun p => p) = ps
  simp
theorem shield_app {a b : List UInt8} (h : a ≠ []) : shieldL (a ++ b) = shieldL a ++ b := by
  cases a with
  | nil => exact absurd rfl h
  | cons c r => rw [List.cons_append, shieldL, shieldL]; split <;> simp
theorem foldl_two (f1 f2 : List It) (h1 : Plain0 f1) (h2 : Plain0 f2) : (posI f1 ++ posI f2).foldl addI [] = normL (f1 ++ f2) := by
  rw [List.foldl_append, pos_join f1 [] h1, pos_join f2 _ h2]
  unfold normL
  rw [List.foldl_append]
/-- Two encoded fragments with a continuation between them are read as one. -/
theorem lines_read {f1 f2 : List It} {B : List UInt8} (g1 : ∀ p ∈ posI f1, Pos1 p) (g2 : ∀ p ∈ posI f2, Pos1 p) (h1 : Plain0 f1) (h2 : Plain0 f2) (hB : ∀ c ∈ B, blkC c = true) (hl : f1.length + f2.length ≤ 512) (hL : lenL f1 + lenL f2 ≤ 1024) :
    ∃ cuts, decF resL (f1.flatMap (encI 2) ++ ([92, 10] ++ B) ++ shieldL (f2.flatMap (encI 2))) 0 0 [] [] = (normL (f1 ++ f2), cuts, 0, 0) := by
  have hn := foldl_two f1 f2 h1 h2
  have hnl : (normL (f1 ++ f2)).length ≤ 512 := Nat.le_trans (normL_len _) (by simp; omega)
  have hp1 : ∀ q ∈ encP (posI f1), Piece resL q.1 q.2 := by
    intro q hq
    obtain ⟨p, hp, rfl⟩ := List.mem_map.1 hq
    exact res_piece (g1 p hp)
  have hl1 : (encP (posI f1)).length = lenL f1 := by unfold encP; rw [List.length_map, pos_len]
  rw [enc_pos 2 f1, enc_pos 2 f2]
  cases hq : posI f2 with
  | nil =>
    rw [hq, List.append_nil] at hn
    have hd := decF_pieces (encP (posI f1)) ([92, 10] ++ B) 0 0 [] [] hp1 (by rw [encP_its, hn]; exact hnl) (by simp; omega)
    rw [encP_flat, encP_its, hn] at hd
    apply Exists.intro
    · simp only [List.flatMap_nil, shieldL, List.append_nil]
      rw [hd]
      have hs : resL ([92, 10] ++ B) = some (0, [], 2 + B.length) := by
        show resL (92 :: 10 :: B) = _
        rw [res_cont (by decide) (by decide)]
        have : blkN B = B.length := by unfold blkN; have h := List.takeWhile_append_of_pos (l₂ := []) hB; simp only [List.append_nil, List.takeWhile_nil] at h; rw [h]
        rw [this]
      rw [decF_skip res_elen _ _ _ _ (by simp) hs, List.drop_of_length_le (by simp; omega), decF_nil]
  | cons p r =>
    have hgp : Pos1 p := g2 p (by rw [hq]; simp)
    have hne := (encI_len hgp 2).2
    rw [List.flatMap_cons, shield_app hne]
    have e : (posI f1).flatMap (encI 2) ++ ([92, 10] ++ B) ++ (shieldL (encI 2 p) ++ r.flatMap (encI 2)) = flatP (encP (posI f1) ++ (([92, 10] ++ B ++ shieldL (encI 2 p), p) :: encP r)) := by
      rw [show ∀ a b : List (List UInt8 × It), flatP (a ++ b) = flatP a ++ flatP b from fun a b => by simp [flatP], encP_flat]
      have : flatP (([92, 10] ++ B ++ shieldL (encI 2 p), p) :: encP r) = ([92, 10] ++ B ++ shieldL (encI 2 p)) ++ flatP (encP r) := by simp [flatP]
      rw [this, encP_flat]
      simp
    have hp : ∀ q ∈ encP (posI f1) ++ (([92, 10] ++ B ++ shieldL (encI 2 p), p) :: encP r), Piece resL q.1 q.2 := by
      intro q hqm
      rcases List.mem_append.1 hqm with hqm | hqm
      · exact hp1 q hqm
      · rcases List.mem_cons.1 hqm with rfl | hqm
        · exact cont_piece2 hgp hB
        · obtain ⟨s, hs, rfl⟩ := List.mem_map.1 hqm
          exact res_piece (g2 s (by rw [hq]; simp [hs]))
    have hits : itsP (encP (posI f1) ++ (([92, 10] ++ B ++ shieldL (encI 2 p), p) :: encP r)) = posI f1 ++ posI f2 := by
      have : ∀ a b : List (List UInt8 × It), itsP (a ++ b) = itsP a ++ itsP b := fun a b => by simp [itsP]
      rw [this, encP_its, hq]
      congr 1
      show p :: itsP (encP r) = _
      rw [encP_its]
    have hlen : (encP (posI f1) ++ (([92, 10] ++ B ++ shieldL (encI 2 p), p) :: encP r)).length = lenL f1 + lenL f2 := by
      have := congrArg List.length hits
      simp only [itsP, List.length_map] at this
      rw [this, List.length_append, pos_len, pos_len]
    have hd := decF_pieces _ [] 0 0 [] [] hp (by rw [hits, hn]; exact hnl) (by rw [hlen]; simp; omega)
    rw [List.append_nil, hits, hn, decF_nil] at hd
    rw [e]
    exact ⟨_, hd⟩

/-- Bytes in which no line ends. -/
def Endk (R : List UInt8) : Prop := ∀ t, endN (R ++ t) = R.length + endN t
theorem endk_nil : Endk [] := by intro t; simp
theorem endk_append {a b : List UInt8} (ha : Endk a) (hb : Endk b) : Endk (a ++ b) := by
  intro t
  rw [List.append_assoc, ha, hb, List.length_append]; omega
theorem endk_one {c : UInt8} (h : c.toNat ≠ 10) (h2 : c.toNat ≠ 92) : Endk [c] := by
  intro t
  show endN (c :: t) = _
  rw [endN_e h h2]; simp
theorem endk_esc (x : UInt8) : Endk [92, x] := by
  intro t
  show endN (92 :: x :: t) = _
  rw [endN_2 (by decide)]; simp
theorem endk_all {R : List UInt8} (h : ∀ c ∈ R, c.toNat ≠ 10 ∧ c.toNat ≠ 92) : Endk R := by
  induction R with
  | nil => exact endk_nil
  | cons c r ih => exact endk_append (endk_one (h c (by simp)).1 (h c (by simp)).2) (ih fun d hd => h d (by simp [hd]))
theorem name_endk {t : List UInt8} (h : isNameL t = true) : ∀ c ∈ t, c.toNat ≠ 10 ∧ c.toNat ≠ 92 := by
  cases t with
  | nil => intro c hc; cases hc
  | cons d r =>
    rw [isNameL] at h
    simp only [Bool.and_eq_true, decide_eq_true_eq, lowC] at h
    obtain ⟨_, h1, h2⟩ := h
    intro c hc
    rcases List.mem_cons.1 hc with rfl | hc
    · omega
    · have := List.all_eq_true.1 h2 c hc
      simp only [nameC, decide_eq_true_eq] at this
      omega
theorem pos_endk {p : It} (h : Pos1 p) : Endk (encI 2 p) := by
  rcases h with ⟨c, rfl⟩ | ⟨t, rfl, ht⟩
  · have e : encI 2 (1, [c], 0) = encB 2 c := by simp [encI]
    rw [e]
    unfold encB
    rw [if_neg (by decide), if_pos (by decide)]
    by_cases h10 : c.toNat = 10
    · rw [if_pos h10]; exact endk_esc 110
    by_cases h9 : c.toNat = 9
    · rw [if_neg h10, if_pos h9]; exact endk_esc 116
    by_cases h13 : c.toNat = 13
    · rw [if_neg h10, if_neg h9, if_pos h13]; exact endk_esc 114
    by_cases h92 : c.toNat = 92 ∨ c.toNat = 123
    · rw [if_neg h10, if_neg h9, if_neg h13, if_pos h92]; exact endk_esc c
    · rw [if_neg h10, if_neg h9, if_neg h13, if_neg h92]; exact endk_one h10 (by omega)
  · have e : encI 2 (5, t, 0) = [123] ++ t ++ [125] := by simp [encI]
    rw [e]
    exact endk_append (endk_append (endk_one (by decide) (by decide)) (endk_all (name_endk ht))) (endk_one (by decide) (by decide))
theorem flat_endk (f : List It) (h : ∀ p ∈ f, Pos1 p) : Endk (f.flatMap (encI 2)) := by
  induction f with
  | nil => exact endk_nil
  | cons p f ih => rw [List.flatMap_cons]; exact endk_append (pos_endk (h p (by simp))) (ih fun q hq => h q (by simp [hq]))
theorem shield_endk {R : List UInt8} (h : Endk R) : Endk (shieldL R) := by
  cases R with
  | nil => exact h
  | cons c r =>
    rw [shieldL]
    split
    · rename_i h32
      refine endk_append (endk_esc 115) ?_
      intro t
      have := h t
      rw [List.cons_append, endN_e (by omega) (by omega), List.length_cons] at this
      omega
    · exact h
theorem lines_endk {f1 f2 : List It} {B : List UInt8} (g1 : ∀ p ∈ posI f1, Pos1 p) (g2 : ∀ p ∈ posI f2, Pos1 p) (hB : ∀ c ∈ B, c.toNat = 32) : Endk (f1.flatMap (encI 2) ++ ([92, 10] ++ B) ++ shieldL (f2.flatMap (encI 2))) := by
  rw [enc_pos 2 f1, enc_pos 2 f2]
  exact endk_append (endk_append (flat_endk _ g1) (endk_append (endk_esc 10) (endk_all fun c hc => by have := hB c hc; omega))) (shield_endk (flat_endk _ g2))
/-- A file with a value over lines, and an empty one. -/
theorem lines_split (dE : List UInt8 → Nat × Int) (R : List UInt8) (hQ : Endk R) (hE : (dE R).2 = 0) (hE0 : (dE []).2 = 0) (hlen : R.length ≤ 60000) :
    splitR dE (107 :: 61 :: (R ++ [10, 122, 61])) = ([(false, [], [107, 61]), (true, [107], R), (false, [], [10, 122, 61]), (true, [122], []), (false, [], [])], 0, 0) := by
  generalize hd : (107 :: 61 :: (R ++ [10, 122, 61]) : List UInt8) = d
  have hdl : d.length = R.length + 5 := by rw [← hd]; simp
  have hd0 : d.drop 0 = 107 :: 61 :: (R ++ [10, 122, 61]) := by rw [← hd]; rfl
  have hd1 : d.drop 1 = 61 :: (R ++ [10, 122, 61]) := by rw [← hd]; rfl
  have hd2 : d.drop 2 = R ++ [10, 122, 61] := by rw [← hd]; rfl
  have hdr : ∀ i, d.drop (R.length + 2 + i) = ([10, 122, 61] : List UInt8).drop i := by
    intro i
    rw [show R.length + 2 + i = 2 + (R.length + i) by omega, ← List.drop_drop, hd2, List.drop_append, List.drop_of_length_le (by omega), List.nil_append, show R.length + i - R.length = i by omega]
  have hen : endN (d.drop 2) = R.length := by
    rw [hd2, hQ]
    have : endN [10, 122, 61] = 0 := endN_10 (by decide)
    omega
  have hc1 : cutL d 2 (R.length + 2) = R := by
    unfold cutL
    rw [List.drop_take, hd2, show R.length + 2 - 2 = R.length by omega, List.take_left]
  have hk0 : keyN (d.drop 0) = 1 := by rw [hd0]; rfl
  have hk1 : keyN (d.drop (R.length + 3)) = 1 := by rw [show R.length + 3 = R.length + 2 + 1 from rfl, hdr 1]; rfl
  have hcut0 : cutL d 0 1 = [107] := by rw [← hd]; rfl
  have hcut1 : cutL d (R.length + 3) (R.length + 4) = [122] := by
    unfold cutL
    rw [List.drop_take, show R.length + 3 = R.length + 2 + 1 from rfl, hdr 1, show R.length + 4 - (R.length + 2 + 1) = 1 by omega]; rfl
  have s1 : ∀ m, resS dE d (m + 1) 0 ([], 0) = resS dE d m (R.length + 3) (unitS d ([], 0) 2 (R.length + 2) [107]) := by
    intro m
    have := resS_unit (dE := dE) (d := d) (fuel := m) (a := 0) (s := ([], 0)) (by omega) (by rw [hd0]; rfl) (by rw [hk0, show 0 + 1 = 1 from rfl, hd1]; simp) (by rfl) (n := 1) (b := 2) (t := R.length + 2) hk0 rfl (by rw [hen]; omega) (by rw [hc1]; exact hE)
    rw [this, Nat.min_eq_left (by omega), show 0 + 1 = 1 from rfl, hcut0]
  have hce : cutL d (R.length + 5) (R.length + 5) = [] := by
    unfold cutL
    apply List.drop_of_length_le
    rw [List.length_take]; omega
  have s2 : ∀ m, resS dE d (m + 1) (R.length + 3) (unitS d ([], 0) 2 (R.length + 2) [107]) = .ok (unitS d (unitS d ([], 0) 2 (R.length + 2) [107]) (R.length + 5) (R.length + 5) [122]) := by
    intro m
    have h3 : d.drop (R.length + 3) = [122, 61] := hdr 1
    have h4 : d.drop (R.length + 3 + 1) = [61] := hdr 2
    have := resS_unit (dE := dE) (d := d) (fuel := m) (a := R.length + 3) (s := unitS d ([], 0) 2 (R.length + 2) [107]) (by omega) (by rw [h3]; rfl) (by rw [hk1, h4]; simp) (by rw [hk1]; show hasK _ (cutL d (R.length + 3) (R.length + 4)) = false; rw [hcut1]; simp [unitS, hasK]) (n := 1) (b := R.length + 5) (t := R.length + 5) hk1 rfl (by rw [List.drop_of_length_le (by omega)]; rfl) (by rw [hce]; exact hE0)
    rw [this, show R.length + 3 + 1 = R.length + 4 from rfl, hcut1, resS_end (by omega)]
  rw [splitR_ok (by omega), hdl, show R.length + 5 + 1 = (R.length + 4) + 1 + 1 from rfl, s1, s2]
  have c0 : cutL d 0 2 = [107, 61] := by rw [← hd]; rfl
  have c2 : cutL d (R.length + 2) (R.length + 5) = [10, 122, 61] := by
    unfold cutL
    rw [List.drop_take, show R.length + 5 - (R.length + 2) = 3 by omega]
    have := hdr 0
    rw [Nat.add_zero] at this
    rw [this]; rfl
  have c4 : d.drop (R.length + 5) = [] := List.drop_of_length_le (by omega)
  simp only [endR', unitS, endS, c0, hc1, c2, hce, c4]
  rfl
end Go.Proofs.YthoemdibbldndaaGreatDoor.St
