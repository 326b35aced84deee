/- The contract of the laws' fixed example of package sheet. Condition: the library's table of powers of ten in memory. -/
import Derived.Test.YtdchoobekngehaaGreatDoorSheetSplit
namespace Go.Proofs.YtdchoobekngehaaGreatDoor
open Go.RowKit

theorem dec_one : Lib.decDigits 1 = [49] := by unfold Lib.decDigits; simp
theorem kd : sheetD ⟨#[97, 34, 34, 98, 123, 123, 99, 123, 110, 125]⟩ = ([(1, [97, 34, 98, 123, 99], 0), (5, [110], 0)], [0, 1, 3, 4, 6, 7, 10], 0, 0) := by rfl
theorem ks1 : sheetS ⟨#[105, 100, 44, 116, 101, 120, 116, 10, 55, 44, 34, 97, 34]⟩ = ([(false, [], [105, 100, 44, 116, 101, 120, 116, 10, 55, 44, 34]), (true, Lib.decDigits 1, [97]), (false, [], [34])], 0, 0) := by rfl
theorem ks2 : sheetS ⟨#[105, 100, 10, 55]⟩ = ([], 0, 6) := by rfl

set_option maxRecDepth 20000 in
set_option maxHeartbeats 3200000 in
theorem sknown_any (w : World) (ht : Tab w) : Calls Tryz.prog 8 #[] w fun e w' => e = .returned (.bool true) ∧ Und w w' := by
  have HTB := hid ht
  have h1 := sdecode_any ⟨#[97, 34, 34, 98, 123, 123, 99, 123, 110, 125]⟩ w (by show 10 ≤ _; omega)
  have h2 := fun W (hW : Und w W) => ssplit_any ⟨#[105, 100, 44, 116, 101, 120, 116, 10, 55, 44, 34, 97, 34]⟩ W (HTB.out.und hW) (by show 13 ≤ _; omega)
  have h3 := fun W (hW : Und w W) => ssplit_any ⟨#[105, 100, 10, 55]⟩ W (HTB.out.und hW) (by show 4 ≤ _; omega)
  rw [kd] at h1
  rw [ks1, dec_one] at h2
  rw [ks2] at h3
  have H1 := hid h1
  have H2 := hid h2
  have H3 := hid h3
  clear h1 h2 h3 ht
  go_enter Tryz.func8, Tryz.ntmps8
  go_wp2_with fail
  refine H1.out.mono ?_
  rintro e w1 ⟨A, c, rfl, hI, hc1, hc2, hu1⟩
  obtain ⟨b, off, rfl, hb, hc⟩ := hI (by simp)
  have g1 := (hc 0 (by simp)).2.1
  simp only [Nat.zero_mul, Nat.add_zero, List.getElem_cons_zero] at g1
  have HU1 := hid hu1
  have HG1 := hid g1
  clear hI hc hu1 g1 hc2
  go_wp2_with fail
  refine (H2.out _ HU1.out).mono ?_
  rintro e w2 ⟨A2, c2, rfl, hP, hd1, hd2, hu2⟩
  obtain ⟨b2, off2, rfl, hb2, hcp⟩ := hP (by simp)
  have k1 := (hcp 1 (by simp)).2.1
  have k2 := (hcp 1 (by simp)).2.2
  simp only [List.getElem_cons_zero, List.getElem_cons_succ] at k1 k2
  have HU2 := hid (HU1.out.trans hu2)
  have HG2 := hid ((hu2.cell (p := ⟨b, off + 1, none⟩) hb).trans HG1.out)
  have hbw := Nat.lt_of_lt_of_le hb hu2.size
  have HK1 := hid k1
  have HK2 := hid k2
  clear hP hcp hu2 k1 k2 hd2 HG1 hb
  go_wp2_with fail
  refine (H3.out _ HU2.out).mono ?_
  rintro e w3 ⟨A3, c3, rfl, _, _, _, hu3⟩
  have m1 := (hu3.cell (p := ⟨b, off + 1, none⟩) hbw).trans HG2.out
  have m2 := (hu3.cell (p := ⟨b2, off2 + 1 * 3 + 1, none⟩) hb2).trans HK1.out
  have m3 := (hu3.cell (p := ⟨b2, off2 + 1 * 3 + 2, none⟩) hb2).trans HK2.out
  have hbw3 := Nat.lt_of_lt_of_le hbw hu3.size
  have hb3 := Nat.lt_of_lt_of_le hb2 hu3.size
  haveI : LtW b w3 := LtW.of hbw3
  haveI : LtW b2 w3 := LtW.of hb3
  have HU3 := hid (HU2.out.trans hu3)
  clear hu3 HG2 HK1 HK2 hbw hb2
  simp only [List.length_cons, List.length_nil] at hc1 hd1
  go_wp2
  go_ret
  exact ⟨rfl, HU3.out⟩
end Go.Proofs.YtdchoobekngehaaGreatDoor
