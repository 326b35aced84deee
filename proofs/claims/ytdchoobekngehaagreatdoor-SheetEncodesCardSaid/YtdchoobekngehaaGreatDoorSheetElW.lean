/- The contract of sheet's element: what it gives is St.sheetL, behind the builder's limits. Condition: the text is no longer than a text can be. -/
import Derived.Test.YtdchoobekngehaaGreatDoorSheetEl
namespace Go.Proofs.YtdchoobekngehaaGreatDoor
open Go.RowKit

set_option maxRecDepth 20000 in
set_option maxHeartbeats 6400000 in
theorem element_any (w : World) (B b : Nat) (its : List St.It) (tx : List UInt8) (cuts : List Nat) (raw : ByteArray) (a : Nat) (h : BAt w B b its tx cuts) (hN : St.NoTxt its) (h1 : its.length ≤ 512) (h2 : cuts.length ≤ 1024) (h3 : tx.length ≤ cuts.length) (hBw : B ≤ w.heap.size)
    (ha : a < raw.size) (hr : raw.size ≤ 4611686018427387904) :
    Calls Tryz.prog 52 #[.pointer (some ⟨b, 0, none⟩), .string raw, .int .i64 a] w (ElEnd w B b its tx cuts (raw.data.toList.drop a) a) := by
  obtain ⟨s, hE⟩ : ∃ s, raw.extract a raw.size = s := ⟨_, rfl⟩
  have hsz : s.size = raw.size - a := by rw [← hE]; simp
  have hs0 : 0 < s.size := by omega
  have hl : s.data.toList = raw.data.toList.drop a := by rw [← hE]; simp; exact List.take_of_length_le (by simp)
  rw [← hl]
  have hcr : s.data.toList = s[0] :: s.data.toList.drop 1 := St.list_zero s hs0
  have hp1 := fun W => hasPrefix_any s ⟨#[34, 34]⟩ W (by omega) (by show 2 ≤ _; omega)
  have hp2 := fun W => hasPrefix_any s ⟨#[123, 123]⟩ W (by omega) (by show 2 ≤ _; omega)
  have e1 : preB ⟨#[34, 34]⟩ s = ([34, 34] : List UInt8).isPrefixOf (s[0] :: s.data.toList.drop 1) := by unfold preB; rw [← hcr]
  have e2 : preB ⟨#[123, 123]⟩ s = ([123, 123] : List UInt8).isPrefixOf (s[0] :: s.data.toList.drop 1) := by unfold preB; rw [← hcr]
  have hby := hid (byte_any w B b its tx cuts s[0] a h (by omega) (by omega) (by omega) hBw)
  have ha1 : (a : Int) ≤ raw.size := by omega
  have ha2 : ¬ raw.size < a := by omega
  have hN' := hid hN
  by_cases c34 : s[0].toNat = 34
  · have hsl := St.sheet_34 (r := s.data.toList.drop 1) c34
    have hq2 : preB ⟨#[123, 123]⟩ s = false := by rw [e2]; exact St.pre2_ne (by intro e; rw [e] at c34; simp at c34)
    have c34' : ((s[0].toNat : Int) == 34) = true := by simp; omega
    rw [← e1, ← hcr] at hsl
    cases hq1 : preB ⟨#[34, 34]⟩ s
    · rw [hq1] at hsl
      have HSL := hid hsl
      rw [hq1] at hp1
      rw [hq2] at hp2
      have HP1 := hid hp1
      have HP2 := hid hp2
      clear hsl hp1 hp2 e1 e2 hq1 hq2 hcr hl h hN
      go_enter Tryz.func52, Tryz.ntmps52
      go_wp2_with fail
      refine (HP1.out _).mono ?_
      rintro e w' ⟨rfl, rfl⟩
      go_wp2_with fail
      refine (HP2.out _).mono ?_
      rintro e w' ⟨rfl, rfl⟩
      go_wp2
      go_ret2
      exact el_err HSL.out (Below.refl _ _)
    · rw [hq1] at hsl
      have HSL := hid hsl
      rw [hq1] at hp1
      have HP1 := hid hp1
      clear hsl hp1 hp2 e1 e2 hq1 hq2 hcr hl h hN
      go_enter Tryz.func52, Tryz.ntmps52
      go_wp2_with fail
      refine (HP1.out _).mono ?_
      rintro e w' ⟨rfl, rfl⟩
      go_wp2_with fail
      have hby2 := hby.out
      rw [c34, show ((34 : Nat) : Int) = 34 from rfl] at hby2
      refine hby2.mono ?_
      rintro e w' ⟨rfl, hba, hbl⟩
      have HBA := hid hba
      have HBL := hid hbl
      clear hba hbl hby2
      cases hfu : St.fullB its.length tx.length cuts.length true
      · have HFU := hid hfu
        clear hfu
        go_wp2
        go_ret2
        exact el_byte HSL.out hN'.out HFU.out HBL.out (HBA.out HFU.out) h3 _ (by omega)
      · have HFU := hid hfu
        clear hfu
        go_wp2
        go_ret2
        exact el_full HSL.out hN'.out HFU.out HBL.out
  by_cases c123 : s[0].toNat = 123
  · have hsl := St.sheet_123 (r := s.data.toList.drop 1) c123
    have hq1 : preB ⟨#[34, 34]⟩ s = false := by rw [e1]; exact St.pre2_ne (by intro e; rw [e] at c123; simp at c123)
    rw [← e2, ← hcr] at hsl
    cases hq2 : preB ⟨#[123, 123]⟩ s
    · rw [hq2] at hsl
      simp only [Bool.false_eq_true, if_false] at hsl
      rw [hq1] at hp1
      rw [hq2] at hp2
      have HP1 := hid hp1
      have HP2 := hid hp2
      have hix := fun W => Tryz.strings_IndexByte s 125 W
      have h125 : (125 : Int).toNat.toUInt8 = 125 := rfl
      rw [h125, hcr] at hix
      rcases St.slot_of (r := s.data.toList.drop 1) c123 with ⟨hi, hs⟩ | ⟨n, hi, hn, htw, hs⟩
      · rw [hi] at hix
        rw [← hcr] at hs
        rw [hs] at hsl
        have HSL := hid hsl
        have HIX := hid hix
        clear hsl hp1 hp2 e1 e2 hq1 hq2 hcr hl h hN hix hi hs h125
        go_enter Tryz.func52, Tryz.ntmps52
        go_wp2_with fail
        refine (HP1.out _).mono ?_
        rintro e w' ⟨rfl, rfl⟩
        go_wp2_with fail
        refine (HP2.out _).mono ?_
        rintro e w' ⟨rfl, rfl⟩
        go_wp2_with fail
        refine (HIX.out _).mono ?_
        rintro e w' ⟨rfl, rfl⟩
        go_wp2
        go_ret2
        exact el_err HSL.out (Below.refl _ _)
      · rw [hi] at hix
        have hns : n + 1 < s.size := by rw [← hcr] at hn; simpa using hn
        obtain ⟨x, hX⟩ : ∃ x, s.extract 1 (n + 1) = x := ⟨_, rfl⟩
        have hxl : x.data.toList = (s.data.toList.drop 1).take n := by rw [← hX]; simp
        have hxs : x.size ≤ s.size := by rw [← hX]; simp; omega
        have hnm := fun W => isname_any x W (by omega)
        rw [← hcr, ← hxl] at hs
        have z1 : (1 : Int) ≤ (n : Int) + 1 := by omega
        have z2 : (n : Int) + 1 ≤ s.size := by omega
        have z3 : ¬ (n : Int) + 1 < 0 := by omega
        cases hnb : St.isNameL x.data.toList
        · rw [hnb] at hs hnm
          simp only [Bool.false_eq_true, if_false] at hs
          rw [hs] at hsl
          have HSL := hid hsl
          have HIX := hid hix
          have HNM := hid hnm
          clear hsl hp1 hp2 e1 e2 hq1 hq2 hcr hl h hN hix hi hs h125 hn htw hnm hnb hxl
          go_enter Tryz.func52, Tryz.ntmps52
          go_wp2_with fail
          refine (HP1.out _).mono ?_
          rintro e w' ⟨rfl, rfl⟩
          go_wp2_with fail
          refine (HP2.out _).mono ?_
          rintro e w' ⟨rfl, rfl⟩
          go_wp2_with fail
          refine (HIX.out _).mono ?_
          rintro e w' ⟨rfl, rfl⟩
          go_wp2_with fail
          refine (HNM.out _).mono ?_
          rintro e w' ⟨rfl, rfl⟩
          go_wp2
          go_ret2
          exact el_err HSL.out (Below.refl _ _)
        · rw [hnb] at hs hnm
          simp only [if_true] at hs
          rw [hs] at hsl
          simp only [Option.map_some] at hsl
          have HSL := hid hsl
          have HIX := hid hix
          have HNM := hid hnm
          have hit := hid (item_any w B b its tx cuts 5 x a h (by omega) (by omega) (by omega) hBw)
          clear hsl hp1 hp2 e1 e2 hq1 hq2 hcr hl h hN hix hi hs h125 hn htw hnm hnb hxl
          go_enter Tryz.func52, Tryz.ntmps52
          go_wp2_with fail
          refine (HP1.out _).mono ?_
          rintro e w' ⟨rfl, rfl⟩
          go_wp2_with fail
          refine (HP2.out _).mono ?_
          rintro e w' ⟨rfl, rfl⟩
          go_wp2_with fail
          refine (HIX.out _).mono ?_
          rintro e w' ⟨rfl, rfl⟩
          go_wp2_with fail
          refine (HNM.out _).mono ?_
          rintro e w' ⟨rfl, rfl⟩
          go_wp2_with fail
          refine hit.out.mono ?_
          rintro e w' ⟨rfl, hba, hbl⟩
          have HBA := hid hba
          have HBL := hid hbl
          clear hba hbl
          cases hfu : St.fullB its.length tx.length cuts.length false
          · have HFU := hid hfu
            clear hfu
            go_wp2
            go_ret2
            exact el_item HSL.out HFU.out HBL.out (HBA.out HFU.out) _ (by omega)
          · have HFU := hid hfu
            clear hfu
            go_wp2
            go_ret2
            exact el_full5 HSL.out HFU.out HBL.out
    · rw [hq2] at hsl
      have HSL := hid hsl
      rw [hq1] at hp1
      rw [hq2] at hp2
      have HP1 := hid hp1
      have HP2 := hid hp2
      clear hsl hp1 hp2 e1 e2 hq1 hq2 hcr hl h hN
      go_enter Tryz.func52, Tryz.ntmps52
      go_wp2_with fail
      refine (HP1.out _).mono ?_
      rintro e w' ⟨rfl, rfl⟩
      go_wp2_with fail
      refine (HP2.out _).mono ?_
      rintro e w' ⟨rfl, rfl⟩
      go_wp2_with fail
      have hby2 := hby.out
      rw [c123, show ((123 : Nat) : Int) = 123 from rfl] at hby2
      refine hby2.mono ?_
      rintro e w' ⟨rfl, hba, hbl⟩
      have HBA := hid hba
      have HBL := hid hbl
      clear hba hbl hby2
      cases hfu : St.fullB its.length tx.length cuts.length true
      · have HFU := hid hfu
        clear hfu
        go_wp2
        go_ret2
        exact el_byte HSL.out hN'.out HFU.out HBL.out (HBA.out HFU.out) h3 _ (by omega)
      · have HFU := hid hfu
        clear hfu
        go_wp2
        go_ret2
        exact el_full HSL.out hN'.out HFU.out HBL.out
  · have hsl := St.sheet_else (r := s.data.toList.drop 1) c34 c123
    have hq1 : preB ⟨#[34, 34]⟩ s = false := by rw [e1]; exact St.pre2_ne (by intro e; rw [e] at c34; simp at c34)
    have hq2 : preB ⟨#[123, 123]⟩ s = false := by rw [e2]; exact St.pre2_ne (by intro e; rw [e] at c123; simp at c123)
    have d34 : ((s[0].toNat : Int) == 34) = false := by simp; omega
    have d123 : ((s[0].toNat : Int) == 123) = false := by simp; omega
    rw [← hcr] at hsl
    have HSL := hid hsl
    rw [hq1] at hp1
    rw [hq2] at hp2
    have HP1 := hid hp1
    have HP2 := hid hp2
    clear hsl hp1 hp2 e1 e2 hq1 hq2 hcr hl h hN c34 c123
    go_enter Tryz.func52, Tryz.ntmps52
    go_wp2_with fail
    refine (HP1.out _).mono ?_
    rintro e w' ⟨rfl, rfl⟩
    go_wp2_with fail
    refine (HP2.out _).mono ?_
    rintro e w' ⟨rfl, rfl⟩
    go_wp2_with fail
    refine hby.out.mono ?_
    rintro e w' ⟨rfl, hba, hbl⟩
    have HBA := hid hba
    have HBL := hid hbl
    clear hba hbl
    cases hfu : St.fullB its.length tx.length cuts.length true
    · have HFU := hid hfu
      clear hfu
      go_wp2
      go_ret2
      exact el_byte HSL.out hN'.out HFU.out HBL.out (HBA.out HFU.out) h3 _ (by omega)
    · have HFU := hid hfu
      clear hfu
      go_wp2
      go_ret2
      exact el_full HSL.out hN'.out HFU.out HBL.out
end Go.Proofs.YtdchoobekngehaaGreatDoor
